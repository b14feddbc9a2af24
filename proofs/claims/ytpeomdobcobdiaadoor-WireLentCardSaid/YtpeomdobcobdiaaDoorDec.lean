/- The kit's contract of the library's decoder, at this program's numbers. No condition. -/
import Derived.Test.YtpeomdobcobdiaaDoorLibF
import Derived.Test.YtpeomdobcobdiaaDoorTy
import Derived.Shelf.Unicode.DecodeAny
namespace Go.Proofs.YtpeomdobcobdiaaDoor
open Go.RowKit Go.Shelf Go.Lib
set_option linter.unusedVariables false
def decRen : Go.Shelf.Ren := ⟨fun | 197 => 53 | 260 => 65 | n => n,
  fun | 0 => 0 | 3 => 3 | 4 => 4 | 5 => 5 | 9 => 9 | 21 => 21 | 46 => 73 | 105 => 96 | 119 => 107 | 138 => 109 | 139 => 110 | n => n,
  fun | 3 => 1 | 4 => 2 | n => n⟩
theorem decLays : Lays.n197 Tryd.prog decRen where
  mixed := by kernel_rfl
  f197 := Tryd.func53.trans (congrArg some (by kernel_rfl))
  f260 := Tryd.func65.trans (congrArg some (by kernel_rfl))
  t0 := Tryd.underlying0
  a0 := Tryd.isAgg0
  z0 := Tryd.sizeOf0
  v0 := Tryd.zeroValue0
  t3 := Tryd.underlying3
  a3 := Tryd.isAgg3
  z3 := Tryd.sizeOf3
  v3 := Tryd.zeroValue3
  t4 := Tryd.underlying4
  a4 := Tryd.isAgg4
  z4 := Tryd.sizeOf4
  v4 := Tryd.zeroValue4
  t5 := Tryd.underlying5
  a5 := Tryd.isAgg5
  z5 := Tryd.sizeOf5
  v5 := Tryd.zeroValue5
  t9 := Tryd.underlying9
  a9 := Tryd.isAgg9
  z9 := Tryd.sizeOf9
  v9 := Tryd.zeroValue9
  t21 := Tryd.underlying21
  a21 := Tryd.isAgg21
  z21 := Tryd.sizeOf21
  v21 := Tryd.zeroValue21
  t46 := Tryd.underlying73
  a46 := Tryd.isAgg73
  z46 := Tryd.sizeOf73
  v46 := Tryd.zeroValue73
  t105 := Tryd.underlying96
  a105 := Tryd.isAgg96
  z105 := Tryd.sizeOf96
  v105 := Tryd.zeroValue96
  t119 := Tryd.underlying107
  a119 := Tryd.isAgg107
  z119 := Tryd.sizeOf107
  t138 := Tryd.underlying109
  a138 := Tryd.isAgg109
  z138 := Tryd.sizeOf109
  v138 := Tryd.zeroValue109
  t139 := Tryd.underlying110
  a139 := Tryd.isAgg110
  z139 := Tryd.sizeOf110
  v139 := Tryd.zeroValue110
  g3 := by kernel_rfl
  g4 := by kernel_rfl
def Tabs (w : World) : Prop := Utf8Tabs 1 2 w
theorem Decode_calls (s : ByteArray) (w : World) (hT : Tabs w) :
    Calls Tryd.prog 53 ⟨[.string s]⟩ w fun e w' => e = .returned (.tuple #[.int .i32 (Lib.decodeGo s).1, .int .i64 (Lib.decodeGo s).2]) ∧ Below w.heap.size w w' :=
  Any.utf8_DecodeRuneInString decLays s w hT
theorem Tabs.old {w w0 : World} {L : List It} (h : Tabs w0) (hS : St w0.heap.size w0 w L) : Tabs w := Utf8Tabs_below h hS.below
end Go.Proofs.YtpeomdobcobdiaaDoor
