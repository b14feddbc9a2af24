/- Contracts of functions that CodeProps reaches, and words to say them. No condition. -/
import Derived.Test.YtnomlloaahoceaaDoorZ02
import Derived.Test.YtnomlloaahoceaaDoorZ03
import Derived.Shelf.Unicode.DecodeAny
import Derived.Test.YtnomlloaahoceaaDoorZ05
import Derived.Lib.RuneCount
/- The kit's contract of the library's decoder, at this program's numbers. No condition. -/
namespace Go.Proofs.YtnomlloaahoceaaDoor
open Go.RowKit Go.Shelf Go.Lib
set_option linter.unusedVariables false
def decRen : Go.Shelf.Ren := ⟨fun | 197 => 96 | 260 => 99 | n => n,
  fun | 0 => 0 | 3 => 3 | 4 => 4 | 5 => 5 | 9 => 9 | 21 => 21 | 46 => 93 | 105 => 160 | 119 => 169 | 138 => 171 | 139 => 172 | n => n,
  fun | 3 => 1 | 4 => 2 | n => n⟩
theorem decLays : Lays.n197 Tryd.prog decRen where
  mixed := by kernel_rfl
  f197 := Tryd.func96.trans (congrArg some (by kernel_rfl))
  f260 := Tryd.func99.trans (congrArg some (by kernel_rfl))
  t0 := Tryd.underlying0
  a0 := Tryd.isAgg0
  z0 := Tryd.sizeOf0
  v0 := Tryd.zeroValue0
  t3 := Tryd.underlying3
  a3 := Tryd.isAgg3
  z3 := Tryd.sizeOf3
  v3 := Tryd.zeroValue3
  t4 := Tryd.underlying4
  a4 := Tryd.isAgg4
  z4 := Tryd.sizeOf4
  v4 := Tryd.zeroValue4
  t5 := Tryd.underlying5
  a5 := Tryd.isAgg5
  z5 := Tryd.sizeOf5
  v5 := Tryd.zeroValue5
  t9 := Tryd.underlying9
  a9 := Tryd.isAgg9
  z9 := Tryd.sizeOf9
  v9 := Tryd.zeroValue9
  t21 := Tryd.underlying21
  a21 := Tryd.isAgg21
  z21 := Tryd.sizeOf21
  v21 := Tryd.zeroValue21
  t46 := Tryd.underlying93
  a46 := Tryd.isAgg93
  z46 := Tryd.sizeOf93
  v46 := Tryd.zeroValue93
  t105 := Tryd.underlying160
  a105 := Tryd.isAgg160
  z105 := Tryd.sizeOf160
  v105 := Tryd.zeroValue160
  t119 := Tryd.underlying169
  a119 := Tryd.isAgg169
  z119 := Tryd.sizeOf169
  t138 := Tryd.underlying171
  a138 := Tryd.isAgg171
  z138 := Tryd.sizeOf171
  v138 := Tryd.zeroValue171
  t139 := Tryd.underlying172
  a139 := Tryd.isAgg172
  z139 := Tryd.sizeOf172
  v139 := Tryd.zeroValue172
  g3 := by kernel_rfl
  g4 := by kernel_rfl
def Tabs (w : World) : Prop := Utf8Tabs 1 2 w
theorem Tabs.old {w w0 : World} {L : List It} (h : Tabs w0) (hS : St w0.heap.size w0 w L) : Tabs w := Utf8Tabs_below h hS.below
end Go.Proofs.YtnomlloaahoceaaDoor


/- Contracts of texts. No condition. -/
namespace Go.Proofs.YtnomlloaahoceaaDoor
open Go.RowKit
set_option linter.unusedVariables false
set_option linter.unusedSimpArgs false
theorem rdGo_ok (l : List UInt8) (at_ : Nat) : ∀ k i v, v < 128 ^ i → i + k ≤ 9 → (rdGo l at_ k i v).2.2 = 0 → 0 ≤ (rdGo l at_ k i v).1 ∧ (rdGo l at_ k i v).1 < 9223372036854775808 ∧ (at_ + i : Nat) < (rdGo l at_ k i v).2.1 ∧ (rdGo l at_ k i v).2.1 ≤ l.length := by
  intro k
  induction k with
  | zero => intro i v _ _ h; simp [rdGo] at h
  | succ k ih =>
    intro i v hv hik h
    by_cases hl : l.length ≤ at_ + i
    · rw [rdGo_short hl] at h; simp at h
    · have hik2 : i + 1 + k ≤ 9 := by omega
      have hs := (or_step v ((l.getD (at_ + i) 0).toNat % 128) i (by omega) hv (by omega)).2
      have h9 : 128 ^ (i + 1) ≤ 128 ^ 9 := pow128_le (by omega)
      have h12 : (128 : Nat) ^ 9 = 9223372036854775808 := by decide
      by_cases hc : (l.getD (at_ + i) 0).toNat < 128
      · by_cases h0 : (l.getD (at_ + i) 0).toNat = 0 ∧ 0 < i
        · rw [rdGo_form (by omega) h0.1 h0.2] at h; simp at h
        · rw [rdGo_end (by omega) hc h0]
          refine ⟨?_, ?_, ?_, ?_⟩ <;> first | omega | (dsimp only; omega)
      · rw [rdGo_more (by omega) (by omega)] at h ⊢
        have := ih (i + 1) _ hs hik2 h
        generalize rdGo l at_ k (i + 1) _ = X at this ⊢
        exact ⟨this.1, this.2.1, by have := this.2.2.1; clear h9 h12 hs hv h; omega, this.2.2.2⟩
theorem readUV_ok {l : List UInt8} {at_ : Int} (h : (readUV l at_).2.2 = 0) : 0 ≤ at_ ∧ 0 ≤ (readUV l at_).1 ∧ (readUV l at_).1 < 9223372036854775808 ∧ at_ < (readUV l at_).2.1 ∧ (readUV l at_).2.1 ≤ l.length := by
  unfold readUV at h ⊢
  split at h
  · simp at h
  · rename_i hn
    rw [if_neg hn]
    have := rdGo_ok l at_.toNat 9 0 0 (by decide) (by omega) h
    refine ⟨by omega, this.1, this.2.1, by omega, this.2.2.2⟩
end Go.Proofs.YtnomlloaahoceaaDoor


/- The contract of told. No condition. -/
namespace Go.Proofs.YtnomlloaahoceaaDoor
open Go.RowKit
set_option linter.unusedVariables false
set_option linter.unusedSimpArgs false
end Go.Proofs.YtnomlloaahoceaaDoor


/- The walk of WireNumbers. No condition. -/
namespace Go.Proofs.YtnomlloaahoceaaDoor
open Go.RowKit
set_option linter.unusedVariables false
set_option linter.unusedSimpArgs false
theorem RdE.left {α : Type} {w : World} {ok : Nat → Prop} {enc : α → Value} {A : Option Addr} {l1 l2 : List α} (h : RdE w ok enc A (l1 ++ l2)) : RdE w ok enc A l1 := by
  have := h.take l1.length
  rwa [List.take_left] at this
end Go.Proofs.YtnomlloaahoceaaDoor


/- Plain words for chapter 1: code points. No program in sight; no condition. -/
namespace Go.Proofs.YtnomlloaahoceaaDoor
set_option linter.unusedVariables false
set_option linter.unusedSimpArgs false
def sub (s : ByteArray) (i n : Nat) : List UInt8 := (s.data.toList.drop i).take n
end Go.Proofs.YtnomlloaahoceaaDoor


/- Contracts of code points. No condition. -/
namespace Go.Proofs.YtnomlloaahoceaaDoor
open Go.RowKit
set_option linter.unusedVariables false
set_option linter.unusedSimpArgs false
theorem owns_nil {w : World} {B : Nat} {el : TypeId} {sz : Nat} : Owns w B none 0 el sz 0 [] := ⟨by simp, .inl ⟨rfl, rfl, rfl⟩⟩
end Go.Proofs.YtnomlloaahoceaaDoor


/- Plain words for chapter 1: the bytes of a float's bits. No program in sight; no condition. -/
namespace Go.Proofs.YtnomlloaahoceaaDoor
set_option linter.unusedVariables false
set_option linter.unusedSimpArgs false
def numB (u : Nat) : Bool := !decide (u / 4503599627370496 % 2048 = 2047)
def leB (u : Nat) : Nat → List UInt8
  | 0 => []
  | k + 1 => UInt8.ofNat u :: leB (u / 256) k
theorem leB_len (k : Nat) : ∀ u, (leB u k).length = k := by
  induction k with
  | zero => intro u; rfl
  | succ k ih => intro u; simp [leB, ih]
theorem leB_snoc (k : Nat) : ∀ u, leB u (k + 1) = leB u k ++ [UInt8.ofNat (u / 256 ^ k)] := by
  induction k with
  | zero => intro u; simp [leB]
  | succ k ih => intro u; rw [leB, ih]; simp only [leB, List.cons_append]; rw [Nat.div_div_eq_div_mul, Nat.pow_succ, Nat.mul_comm 256]
def floatV (u : Nat) : List UInt8 × Int := if numB u = false then ([], 15) else (leB u 8, 0)
def vLE (l : List UInt8) (at_ : Nat) : Nat → Nat
  | 0 => 0
  | k + 1 => vLE l at_ k + (l.getD (at_ + k) 0).toNat * 256 ^ k
theorem vLE_lt (l : List UInt8) (at_ : Nat) : ∀ k, vLE l at_ k < 256 ^ k := by
  intro k
  induction k with
  | zero => simp [vLE]
  | succ k ih =>
    have := (l.getD (at_ + k) 0).toNat_lt
    have h2 : (l.getD (at_ + k) 0).toNat * 256 ^ k ≤ 255 * 256 ^ k := Nat.mul_le_mul_right _ (by omega)
    rw [vLE, Nat.pow_succ]; omega
def readFloatV (l : List UInt8) (at_ : Int) : Nat × Int × Int :=
  if at_ < 0 ∨ (l.length : Int) < at_ then (0, 0, 1) else
  if (l.length : Int) - at_ < 8 then (0, 0, 10) else
  if numB (vLE l at_.toNat 8) = false then (0, 0, 15) else (vLE l at_.toNat 8, at_ + 8, 0)
theorem ofInt_u64 (a : Nat) (ha : a < 18446744073709551616) : (BitVec.ofInt 64 (a : Int)).toNat = a := by
  rw [BitVec.ofInt_natCast, BitVec.toNat_ofNat]; exact Nat.mod_eq_of_lt ha
theorem u64_and2047 (a : Nat) (ha : a < 18446744073709551616) : Go.bits .and .u64 (a : Int) 2047 = ((a % 2048 : Nat) : Int) := by
  show Go.IntKind.u64.wrap ((BitVec.ofInt 64 (a : Int) &&& BitVec.ofInt 64 2047).toNat : Int) = _
  have h2 : (BitVec.ofInt 64 2047).toNat = 2047 := by decide
  rw [BitVec.toNat_and, ofInt_u64 a ha, h2, IntKind.wrap_u64]
  rw [show (2047 : Nat) = 2 ^ 11 - 1 by rfl, Nat.and_two_pow_sub_one_eq_mod]
  omega
theorem u64_or (a b : Nat) (ha : a < 18446744073709551616) (hb : b < 18446744073709551616) : Go.bits .or .u64 (a : Int) (b : Int) = ((a ||| b : Nat) : Int) := by
  show Go.IntKind.u64.wrap ((BitVec.ofInt 64 (a : Int) ||| BitVec.ofInt 64 (b : Int)).toNat : Int) = _
  have h3 : a ||| b < 2 ^ 64 := Nat.or_lt_two_pow (by omega) (by omega)
  rw [BitVec.toNat_or, ofInt_u64 a ha, ofInt_u64 b hb, IntKind.wrap_u64]
  omega
theorem pow256 (i : Nat) : (2 : Nat) ^ (8 * i) = 256 ^ i := by rw [Nat.pow_mul]
theorem pow256_le {i j : Nat} (h : i ≤ j) : 256 ^ i ≤ 256 ^ j := Nat.pow_le_pow_right (by decide) h
theorem or_step8 (v c i : Nat) (hi : i < 8) (hv : v < 256 ^ i) (hc : c < 256) :
    Go.bits .or .u64 (v : Int) (Go.IntKind.u64.wrap ((c : Int) * 2 ^ (8 * (i : Int)).toNat)) = ((v + c * 256 ^ i : Nat) : Int) ∧ v + c * 256 ^ i < 18446744073709551616 := by
  have e1 : (8 * (i : Int)).toNat = 8 * i := by omega
  have e2 : ((c : Int) * 2 ^ (8 * i)) = ((c * 256 ^ i : Nat) : Int) := by rw [← pow256]; push_cast; rfl
  have h8 : 256 ^ (i + 1) ≤ 256 ^ 8 := pow256_le (by omega)
  have h10 : c * 256 ^ i ≤ 255 * 256 ^ i := Nat.mul_le_mul_right _ (by omega)
  have h11 : 256 ^ (i + 1) = 256 * 256 ^ i := by rw [Nat.pow_succ, Nat.mul_comm]
  have h12 : (256 : Nat) ^ 8 = 18446744073709551616 := by decide
  have hlt : c * 256 ^ i < 18446744073709551616 := by omega
  refine ⟨?_, by omega⟩
  have hw : Go.IntKind.u64.wrap ((c * 256 ^ i : Nat) : Int) = ((c * 256 ^ i : Nat) : Int) := by
    rw [IntKind.wrap_u64]
    generalize c * 256 ^ i = y at hlt
    omega
  rw [e1, e2, hw, u64_or _ _ (by omega) hlt]
  congr 1
  rw [Nat.or_comm, nat_join (8 * i) (c * 256 ^ i) v (by rw [← pow256]; exact Nat.mul_mod_left _ _) (by rw [pow256]; exact hv), Nat.add_comm]
theorem shr_byte (u i : Nat) : Value.int .u8 (IntKind.u8.wrap ((u : Int) / 2 ^ (8 * (i : Int)).toNat)) = uB (UInt8.ofNat (u / 256 ^ i)) := by
  have e1 : (8 * (i : Int)).toNat = 8 * i := by omega
  have e2 : (u : Int) / 2 ^ (8 * i) = ((u / 256 ^ i : Nat) : Int) := by rw [← pow256]; push_cast; rfl
  rw [e1, e2, u8_wrap]
end Go.Proofs.YtnomlloaahoceaaDoor


/- Contracts of floats, and the walk of WireFloats. No condition. -/
namespace Go.Proofs.YtnomlloaahoceaaDoor
open Go.RowKit
set_option linter.unusedVariables false
set_option linter.unusedSimpArgs false
theorem fine_calls (u : Nat) (hu : u < 18446744073709551616) (w : World) :
    Calls Tryd.prog 71 ⟨[.int .u64 u]⟩ w fun e w' => e = .returned (.bool (numB u)) ∧ Eqv w w' := by
  refine gc_enter (N := 7) Tryd.func71 rfl rfl rfl [(0, _)] rfl ?_
  refine gc_seq fun K1 hK1 => ?_
  refine gc_region ?_
  refine gl_op rfl rfl rfl (op_pure hT rfl) ?_
  refine gl_nil ?_
  refine hK1 _ _ ?_
  clear hK1; try clear K1
  refine gc_seq fun K2 hK2 => ?_
  refine gc_region ?_
  refine gl_op rfl rfl rfl (op_pure hT rfl) ?_
  refine gl_op rfl rfl rfl (op_pure hT rfl) ?_
  have e1 : (u : Int) / 2 ^ 52 = ((u / 4503599627370496 : Nat) : Int) := by omega
  refine gl_op rfl rfl rfl (op_pure hT rfl) ?_
  refine gl_spell 5 (v := .int .u64 ((u / 4503599627370496 % 2048 : Nat) : Int)) rfl ?_ ?_
  · show Value.int .u64 (bits .and .u64 ((u : Int) / 2 ^ 52) 2047) = _
    rw [e1, u64_and2047 _ (by omega)]
  refine gl_op rfl rfl rfl (op_pure hT rfl) ?_
  refine gl_op rfl rfl rfl (op_pure hT rfl) ?_
  refine gl_nil ?_
  refine hK2 _ _ ?_
  clear hK2; try clear K2
  refine gc_ret ?_
  try simp only [x_then_ret, x_block_ret]
  refine gk_ret1 rfl rfl ?_
  exact ⟨by unfold numB; congr 3; rw [Bool.eq_iff_iff]; simp; omega, Eqv.refl _⟩
theorem number_calls (u : Nat) (hu : u < 18446744073709551616) (w : World) :
    Calls Tryd.prog 69 ⟨[.int .u64 u]⟩ w fun e w' => e = .returned (.bool (numB u)) ∧ Eqv w w' := by
  refine gc_enter (N := 7) Tryd.func69 rfl rfl rfl [(0, _)] rfl ?_
  refine gc_seq fun K1 hK1 => ?_
  refine gc_region ?_
  refine gl_op rfl rfl rfl (op_pure hT rfl) ?_
  refine gl_nil ?_
  refine hK1 _ _ ?_
  clear hK1; try clear K1
  refine gc_seq fun K2 hK2 => ?_
  refine gc_region ?_
  refine gl_op rfl rfl rfl (op_pure hT rfl) ?_
  refine gl_op rfl rfl rfl (op_pure hT rfl) ?_
  have e1 : (u : Int) / 2 ^ 52 = ((u / 4503599627370496 : Nat) : Int) := by omega
  refine gl_op rfl rfl rfl (op_pure hT rfl) ?_
  refine gl_spell 5 (v := .int .u64 ((u / 4503599627370496 % 2048 : Nat) : Int)) rfl ?_ ?_
  · show Value.int .u64 (bits .and .u64 ((u : Int) / 2 ^ 52) 2047) = _
    rw [e1, u64_and2047 _ (by omega)]
  refine gl_op rfl rfl rfl (op_pure hT rfl) ?_
  refine gl_op rfl rfl rfl (op_pure hT rfl) ?_
  refine gl_nil ?_
  refine hK2 _ _ ?_
  clear hK2; try clear K2
  refine gc_ret ?_
  try simp only [x_then_ret, x_block_ret]
  refine gk_ret1 rfl rfl ?_
  exact ⟨by unfold numB; congr 3; rw [Bool.eq_iff_iff]; simp; omega, Eqv.refl _⟩
theorem Bits_calls (b : Nat) (w : World) : Calls Tryd.prog 32 ⟨[.float .f64 b]⟩ w fun e w' => e = .returned (.int .u64 b) ∧ Eqv w w' := by
  refine gc_enter (N := 5) Tryd.func32 rfl rfl rfl [(0, _)] rfl ?_
  refine gc_seq fun K1 hK1 => ?_
  refine gc_region ?_
  refine gl_op rfl rfl rfl (op_pure hT rfl) ?_
  refine gl_nil ?_
  refine hK1 _ _ ?_
  clear hK1; try clear K1
  refine gc_seq fun K2 hK2 => ?_
  refine gc_region ?_
  refine gl_op rfl rfl rfl (op_pure hT rfl) ?_
  refine gl_op rfl rfl rfl (op_extern (ext := Extern.MathFloatBits.float64bits) rfl Tryd.func66 (by kernel_rfl) (by kernel_rfl) (by kernel_rfl) (by kernel_rfl) rfl (fun _ => rfl)) ?_
  refine gl_op rfl rfl rfl (op_pure hT rfl) ?_
  refine gl_nil ?_
  refine hK2 _ _ ?_
  clear hK2; try clear K2
  refine gc_ret ?_
  try simp only [x_then_ret, x_block_ret]
  refine gk_ret1 rfl rfl ?_
  exact ⟨rfl, Eqv.refl _⟩
theorem ApiFloat_calls (b : Nat) (w : World) : Calls Tryd.prog 97 ⟨[.int .u64 b]⟩ w fun e w' => e = .returned (.float .f64 b) ∧ Eqv w w' := by
  refine gc_enter (N := 5) Tryd.func97 rfl rfl rfl [(0, _)] rfl ?_
  refine gc_seq fun K1 hK1 => ?_
  refine gc_region ?_
  refine gl_op rfl rfl rfl (op_pure hT rfl) ?_
  refine gl_nil ?_
  refine hK1 _ _ ?_
  clear hK1; try clear K1
  refine gc_seq fun K2 hK2 => ?_
  refine gc_region ?_
  refine gl_op rfl rfl rfl (op_pure hT rfl) ?_
  refine gl_op rfl rfl rfl (op_extern (ext := Extern.MathFloatBits.float64frombits) rfl Tryd.func100 (by kernel_rfl) (by kernel_rfl) (by kernel_rfl) (by kernel_rfl) rfl (fun _ => rfl)) ?_
  refine gl_op rfl rfl rfl (op_pure hT rfl) ?_
  refine gl_nil ?_
  refine hK2 _ _ ?_
  clear hK2; try clear K2
  refine gc_ret ?_
  try simp only [x_then_ret, x_block_ret]
  refine gk_ret1 rfl rfl ?_
  exact ⟨rfl, Eqv.refl _⟩
def fillB (u i : Nat) : List Value := (leB u i).map uB ++ List.replicate (8 - i) (.int .u8 0)
theorem fill_set (u i : Nat) (h : i < 8) : (fillB u i).set i (uB (UInt8.ofNat (u / 256 ^ i))) = fillB u (i + 1) := by
  unfold fillB
  rw [leB_snoc, show 8 - i = (8 - (i + 1)) + 1 by omega, List.replicate_succ]
  have hl : ((leB u i).map uB).length = i := by rw [List.length_map, leB_len]
  rw [List.set_append_right _ _ (by omega)]
  simp [hl]
theorem made_one (v : Value) (n : Nat) : (madeCells #[v] n).toList = List.replicate n v := by
  apply List.ext_getElem
  · simp [madeCells]
  · intro j h1 h2; simp [madeCells, Nat.mod_one]
theorem Float_calls (u : Nat) (hu : u < 18446744073709551616) (w : World) :
    Calls Tryd.prog 40 ⟨[.float .f64 u]⟩ w fun e w' => ∃ A c, e = .returned (.tuple #[.slice A (floatV u).1.length c, .int .i64 (floatV u).2]) ∧
      Owns w' w.heap.size A c 5 1 (floatV u).1.length ((floatV u).1.map uB) ∧ Below w.heap.size w w' := by
  refine gc_enter (N := 28) Tryd.func40 rfl rfl rfl [(0, _)] rfl ?_
  have hS := St.start w
  refine gc_seq fun K1 hK1 => ?_
  refine gc_region ?_
  refine gl_op rfl rfl rfl (op_pure hT rfl) ?_
  refine gl_op rfl rfl rfl (op_pure hT rfl) ?_
  refine gl_nil ?_
  refine hK1 _ _ ?_
  clear hK1; try clear K1
  refine gc_seq fun K2 hK2 => ?_
  refine gc_region ?_
  refine gl_op rfl rfl rfl (op_pure hT rfl) ?_
  refine gl_callf rfl rfl rfl rfl Tryd.func32 rfl rfl rfl (Bits_calls u _) ?_
  rintro _ _ ⟨rfl, n8, rfl⟩
  refine ⟨_, rfl, ?_⟩
  have hS := hS.dr n8
  refine gl_op rfl rfl rfl (op_pure hT rfl) ?_
  refine gl_nil ?_
  refine hK2 _ _ ?_
  clear hK2; try clear K2
  refine gc_seq fun K3 hK3 => ?_
  refine gc_seq fun K4 hK4 => ?_
  refine gc_region ?_
  refine gl_op rfl rfl rfl (op_pure hT rfl) ?_
  refine gl_callf rfl rfl rfl rfl Tryd.func71 rfl rfl rfl (fine_calls u hu _) ?_
  rintro _ _ ⟨rfl, n10, rfl⟩
  refine ⟨_, rfl, ?_⟩
  have hS := hS.dr n10
  refine gl_op rfl rfl rfl (op_pure hT rfl) ?_
  refine gl_nil ?_
  refine hK4 _ _ ?_
  clear hK4; try clear K4
  refine gc_cond rfl rfl (fun c11 => ?_) (fun c11 => ?_)
  · try simp only [decide_eq_true_eq, decide_eq_false_iff_not, Bool.not_eq_true', Bool.not_eq_false', Int.not_lt, Int.not_le, Nat.not_lt, Nat.not_le, Bool.true_eq, Bool.false_eq, reduceCtorEq] at c11
    refine gc_seq fun K5 hK5 => ?_
    refine gc_region ?_
    refine gl_op rfl rfl rfl (op_pure hT rfl) ?_
    refine gl_op rfl rfl rfl (op_pure hT rfl) ?_
    refine gl_nil ?_
    refine hK5 _ _ ?_
    clear hK5; try clear K5
    refine gc_ret ?_
    try simp only [x_then_ret, x_block_ret]
    refine gk_ret2 rfl rfl rfl ?_
    have e1 : floatV u = ([], 15) := by unfold floatV; rw [if_pos c11]
    rw [e1]
    exact ⟨none, 0, rfl, owns_nil, hS.below⟩
  · try simp only [decide_eq_true_eq, decide_eq_false_iff_not, Bool.not_eq_true', Bool.not_eq_false', Int.not_lt, Int.not_le, Nat.not_lt, Nat.not_le, Bool.true_eq, Bool.false_eq, reduceCtorEq] at c11
    refine gc_skip ?_
    refine hK3 _ _ ?_
    clear hK3; try clear K3
    refine gc_seq fun K6 hK6 => ?_
    refine gc_region ?_
    refine gl_make (n := 8) hT hS el5 rfl rfl rfl rfl rfl rfl rfl (by omega) (by omega) fun g12 w12 hS => ?_
    refine gl_op rfl rfl rfl (op_pure hT rfl) ?_
    refine gl_nil ?_
    refine hK6 _ _ ?_
    clear hK6; try clear K6
    refine gc_seq fun K7 hK7 => ?_
    refine gc_seq fun K8 hK8 => ?_
    refine gc_region ?_
    refine gl_op rfl rfl rfl (op_pure hT rfl) ?_
    refine gl_op rfl rfl rfl (op_pure hT rfl) ?_
    refine gl_op rfl rfl rfl (op_pure hT rfl) ?_
    refine gl_nil ?_
    refine hK8 _ _ ?_
    clear hK8; try clear K8
    refine gc_block ?_
    have e0 : (madeCells (Value.int .u8 0).cells (8 * 1)).toList = fillB u 0 := by
      rw [show (Value.int .u8 0).cells = #[Value.int .u8 0] from rfl, made_one]; simp [fillB, leB]
    rw [e0] at hS
    refine gc_loop (fun k a w' => ∃ (i : Nat) (A : Option Addr), Fr 28 a [(4, .int .u64 u), (5, .slice A 8 8), (14, .int .i64 8), (15, .int .i64 i)] ∧ i ≤ 8 ∧ k = 9 - i ∧ St w.heap.size w w' [.row A 8 5 1 8 (fillB u i)]) 9 ?_ ?_ ?_
    · intro a ha; exact ⟨0, _, ha.sub ⟨rfl, rfl, rfl, rfl, trivial⟩, by omega, by omega, hS⟩
    · rintro a w ⟨i, _, _, h1, h2, _⟩; omega
    rintro k a w1 ⟨i, A, hF, hi, hk, hS⟩
    refine gc_of hF ?_
    refine gc_seq fun K9 hK9 => ?_
    refine gc_region ?_
    refine gl_op rfl rfl rfl (op_pure hT rfl) ?_
    refine gl_nil ?_
    refine hK9 _ _ ?_
    clear hK9; try clear K9
    refine gc_seq fun K10 hK10 => ?_
    refine gc_cond rfl rfl (fun c16 => ?_) (fun c16 => ?_)
    · try simp only [decide_eq_true_eq, decide_eq_false_iff_not, Bool.not_eq_true', Bool.not_eq_false', Int.not_lt, Int.not_le, Nat.not_lt, Nat.not_le, Bool.true_eq, Bool.false_eq, reduceCtorEq] at c16
      refine gc_skip ?_
      refine hK10 _ _ ?_
      clear hK10; try clear K10
      refine gc_seq fun K11 hK11 => ?_
      refine gc_block ?_
      refine gc_seq fun K12 hK12 => ?_
      refine gc_region ?_
      refine gl_op rfl rfl rfl (op_pure hT rfl) ?_
      refine gl_op rfl rfl rfl (op_pure hT rfl) ?_
      refine gl_nil ?_
      refine hK12 _ _ ?_
      clear hK12; try clear K12
      refine gc_region ?_
      refine gl_op rfl rfl rfl (op_pure hT rfl) ?_
      refine gl_op rfl rfl rfl (op_pure hT rfl) ?_
      refine gl_op rfl rfl rfl (op_pure hT rfl) ?_
      refine gl_op rfl rfl rfl (op_pure hT rfl) ?_
      first | refine gl_fit hT rfl rfl rfl rfl (by omega) ?_ | refine gl_op rfl rfl rfl (op_pure hT rfl) ?_
      refine gl_op rfl rfl rfl (op_shr rfl rfl rfl (by omega) (by first | omega | (simp [IntKind.bits]; omega))) ?_
      refine gl_op rfl rfl rfl (op_pure hT rfl) ?_
      refine gl_ixR 0 hT hS rfl rfl rfl rfl rfl el5.cellsOf.1 el5.cellsOf.2 rfl rfl rfl (by omega) (by first | omega | (simp; omega)) (by first | exact Nat.le_refl _ | omega | (simp; omega)) fun g25 hg25 => ?_
      cases hg25
      refine gl_storeR 0 hS el5.cellsOf.1 el5.cellsOf.2 rfl rfl rfl rfl rfl rfl (by first | omega | (simp; omega)) rfl fun ws25 hS => ?_
      refine gl_nil ?_
      refine hK11 _ _ ?_
      clear hK11; try clear K11
      refine gc_region ?_
      first | refine gl_fit hT rfl rfl rfl rfl (by omega) ?_ | refine gl_op rfl rfl rfl (op_pure hT rfl) ?_
      refine gl_op rfl rfl rfl (op_pure hT rfl) ?_
      refine gl_nil ?_
      intro a ha
      have hx : ((i : Int)).toNat = i := by omega
      rw [shr_byte, hx] at hS
      have hS : St w.heap.size w ws25 [.row (some ⟨g25, 0, none⟩) 8 5 1 8 ((fillB u i).set i (uB (UInt8.ofNat (u / 256 ^ i))))] := hS
      rw [fill_set u i (by omega)] at hS
      exact ⟨i + 1, _, ha.sub ⟨rfl, rfl, rfl, rfl, trivial⟩, by omega, by omega, hS⟩
    · try simp only [decide_eq_true_eq, decide_eq_false_iff_not, Bool.not_eq_true', Bool.not_eq_false', Int.not_lt, Int.not_le, Nat.not_lt, Nat.not_le, Bool.true_eq, Bool.false_eq, reduceCtorEq] at c16
      refine gc_exit ?_
      refine hK7 _ _ ?_
      clear hK7; try clear K7
      refine gc_seq fun K13 hK13 => ?_
      refine gc_region ?_
      refine gl_op rfl rfl rfl (op_pure hT rfl) ?_
      refine gl_op rfl rfl rfl (op_pure hT rfl) ?_
      refine gl_op rfl rfl rfl (op_pure hT rfl) ?_
      refine gl_nil ?_
      refine hK13 _ _ ?_
      clear hK13; try clear K13
      refine gc_ret ?_
      try simp only [x_then_ret, x_block_ret]
      refine gk_ret2 rfl rfl rfl ?_
      have e1 : floatV u = (leB u 8, 0) := by unfold floatV; rw [if_neg (by simp [c11])]
      rw [e1]
      have hi8 : i = 8 := by omega
      subst hi8
      obtain ⟨h2, h3⟩ := hS.out (i := 0) rfl
      have e2 : fillB u 8 = (leB u 8).map uB := by simp [fillB]
      rw [e2] at h2
      exact ⟨A, 8, rfl, h2, h3⟩
theorem rFloat_calls (u : Nat) (hu : u < 18446744073709551616) (w : World) :
    Calls Tryd.prog 35 ⟨[.int .u64 u]⟩ w fun e w' => ∃ A c, e = .returned (.tuple #[.slice A (floatV u).1.length c, .int .i64 (floatV u).2]) ∧
      Owns w' w.heap.size A c 5 1 (floatV u).1.length ((floatV u).1.map uB) ∧ Below w.heap.size w w' := by
  refine gc_enter (N := 22) Tryd.func35 rfl rfl rfl [(0, _)] rfl ?_
  have hS := St.start w
  refine gc_seq fun K1 hK1 => ?_
  refine gc_region ?_
  refine gl_op rfl rfl rfl (op_pure hT rfl) ?_
  refine gl_op rfl rfl rfl (op_pure hT rfl) ?_
  refine gl_nil ?_
  refine hK1 _ _ ?_
  clear hK1; try clear K1
  refine gc_seq fun K2 hK2 => ?_
  refine gc_seq fun K3 hK3 => ?_
  refine gc_region ?_
  refine gl_op rfl rfl rfl (op_pure hT rfl) ?_
  refine gl_callf rfl rfl rfl rfl Tryd.func69 rfl rfl rfl (number_calls u hu _) ?_
  rintro _ _ ⟨rfl, n7, rfl⟩
  refine ⟨_, rfl, ?_⟩
  have hS := hS.dr n7
  refine gl_op rfl rfl rfl (op_pure hT rfl) ?_
  refine gl_nil ?_
  refine hK3 _ _ ?_
  clear hK3; try clear K3
  refine gc_cond rfl rfl (fun c8 => ?_) (fun c8 => ?_)
  · try simp only [decide_eq_true_eq, decide_eq_false_iff_not, Bool.not_eq_true', Bool.not_eq_false', Int.not_lt, Int.not_le, Nat.not_lt, Nat.not_le, Bool.true_eq, Bool.false_eq, reduceCtorEq] at c8
    refine gc_seq fun K4 hK4 => ?_
    refine gc_region ?_
    refine gl_op rfl rfl rfl (op_pure hT rfl) ?_
    refine gl_op rfl rfl rfl (op_pure hT rfl) ?_
    refine gl_nil ?_
    refine hK4 _ _ ?_
    clear hK4; try clear K4
    refine gc_ret ?_
    try simp only [x_then_ret, x_block_ret]
    refine gk_ret2 rfl rfl rfl ?_
    have e1 : floatV u = ([], 15) := by unfold floatV; rw [if_pos c8]
    rw [e1]
    exact ⟨none, 0, rfl, owns_nil, hS.below⟩
  · try simp only [decide_eq_true_eq, decide_eq_false_iff_not, Bool.not_eq_true', Bool.not_eq_false', Int.not_lt, Int.not_le, Nat.not_lt, Nat.not_le, Bool.true_eq, Bool.false_eq, reduceCtorEq] at c8
    refine gc_skip ?_
    refine hK2 _ _ ?_
    clear hK2; try clear K2
    refine gc_seq fun K5 hK5 => ?_
    refine gc_region ?_
    refine gl_op rfl rfl rfl (op_pure hT rfl) ?_
    refine gl_nil ?_
    refine hK5 _ _ ?_
    clear hK5; try clear K5
    refine gc_seq fun K6 hK6 => ?_
    refine gc_seq fun K7 hK7 => ?_
    refine gc_region ?_
    refine gl_op rfl rfl rfl (op_pure hT rfl) ?_
    refine gl_nil ?_
    refine hK7 _ _ ?_
    clear hK7; try clear K7
    refine gc_block ?_
    have hS := hS.nil 5 1
    refine gc_loop (fun k a w' => ∃ (i : Nat) (A : Option Addr) (c : Nat), Fr 22 a [(0, .int .u64 (u / 256 ^ i : Nat)), (4, .slice A i c), (5, .int .i64 i)] ∧ i ≤ 8 ∧ k = 9 - i ∧ St w.heap.size w w' [.row A c 5 1 i ((leB u i).map uB)]) 9 ?_ ?_ ?_
    · intro a ha; exact ⟨0, _, _, ha.sub ⟨by show some (Value.int .u64 (u : Nat)) = _; simp, rfl, rfl, trivial⟩, by omega, by omega, hS⟩
    · rintro a w ⟨i, _, _, _, h1, h2, _⟩; omega
    rintro k a w1 ⟨i, A, c, hF, hi, hk, hS⟩
    refine gc_of hF ?_
    have hdl : u / 256 ^ i ≤ u := Nat.div_le_self _ _
    generalize hy : u / 256 ^ i = y at hF hdl
    refine gc_seq fun K8 hK8 => ?_
    refine gc_seq fun K9 hK9 => ?_
    refine gc_region ?_
    refine gl_op rfl rfl rfl (op_pure hT rfl) ?_
    refine gl_op rfl rfl rfl (op_pure hT rfl) ?_
    refine gl_nil ?_
    refine hK9 _ _ ?_
    clear hK9; try clear K9
    refine gc_cond rfl rfl (fun c10 => ?_) (fun c10 => ?_)
    · try simp only [decide_eq_true_eq, decide_eq_false_iff_not, Bool.not_eq_true', Bool.not_eq_false', Int.not_lt, Int.not_le, Nat.not_lt, Nat.not_le, Bool.true_eq, Bool.false_eq, reduceCtorEq] at c10
      refine gc_skip ?_
      refine hK8 _ _ ?_
      clear hK8; try clear K8
      refine gc_seq fun K10 hK10 => ?_
      refine gc_block ?_
      refine gc_seq fun K11 hK11 => ?_
      refine gc_region ?_
      refine gl_op rfl rfl rfl (op_pure hT rfl) ?_
      refine gl_op rfl rfl rfl (op_pure hT rfl) ?_
      refine gl_op rfl rfl rfl (op_rem hT rfl (by omega)) ?_
      refine gl_op rfl rfl rfl (op_pure hT rfl) ?_
      refine gl_lit hT hS el5 rfl rfl rfl rfl rfl rfl rfl rfl rfl fun g17 w17 hS => ?_
      refine gl_append 0 hT hS el5 (hS.rd (i := 1) rfl) (rfl) rfl rfl rfl rfl rfl rfl rfl rfl (by first | omega | (simp; omega)) (by first | omega | (simp; omega)) fun A18 c18 w18 hS => ?_
      have hS := hS.erase 1
      refine gl_op rfl rfl rfl (op_pure hT rfl) ?_
      refine gl_nil ?_
      refine hK11 _ _ ?_
      clear hK11; try clear K11
      refine gc_region ?_
      refine gl_op rfl rfl rfl (op_pure hT rfl) ?_
      refine gl_op rfl rfl rfl (op_pure hT rfl) ?_
      refine gl_spell 20 (v := .int .u64 (y / 256 : Nat)) rfl (by rw [Int.tdiv_eq_ediv_of_nonneg (by omega), IntKind.wrap_u64, Int.emod_eq_of_lt (by omega) (by omega)]; rfl) ?_
      refine gl_op rfl rfl rfl (op_pure hT rfl) ?_
      refine gl_nil ?_
      refine hK10 _ _ ?_
      clear hK10; try clear K10
      refine gc_region ?_
      refine gl_op rfl rfl rfl (op_pure hT rfl) ?_
      first | refine gl_fit hT rfl rfl rfl rfl (by omega) ?_ | refine gl_op rfl rfl rfl (op_pure hT rfl) ?_
      refine gl_op rfl rfl rfl (op_pure hT rfl) ?_
      refine gl_nil ?_
      intro a ha
      have e1 : Value.int .u8 (IntKind.u8.wrap ((y : Int) % 256)) = uB (UInt8.ofNat (u / 256 ^ i)) := by
        rw [hy, u8_mod]
        have : ((y : Int) % 256 % 256).toNat = y % 256 := by omega
        rw [this]
        congr 1
        apply UInt8.toNat_inj.1
        rw [UInt8.toNat_ofNat', UInt8.toNat_ofNat']; omega
      rw [e1] at hS
      have hS : St w.heap.size w w18 [.row A18 c18 5 1 (i + 1) ((leB u i).map uB ++ [uB (UInt8.ofNat (u / 256 ^ i))])] := hS
      have e2 : (leB u i).map uB ++ [uB (UInt8.ofNat (u / 256 ^ i))] = (leB u (i + 1)).map uB := by rw [leB_snoc]; simp
      rw [e2] at hS
      refine ⟨i + 1, _, _, ha.sub ⟨?_, rfl, rfl, trivial⟩, by omega, by omega, hS⟩
      rw [Nat.pow_succ, ← Nat.div_div_eq_div_mul, hy]; rfl
    · try simp only [decide_eq_true_eq, decide_eq_false_iff_not, Bool.not_eq_true', Bool.not_eq_false', Int.not_lt, Int.not_le, Nat.not_lt, Nat.not_le, Bool.true_eq, Bool.false_eq, reduceCtorEq] at c10
      refine gc_exit ?_
      refine hK6 _ _ ?_
      clear hK6; try clear K6
      refine gc_seq fun K12 hK12 => ?_
      refine gc_region ?_
      refine gl_op rfl rfl rfl (op_pure hT rfl) ?_
      refine gl_op rfl rfl rfl (op_pure hT rfl) ?_
      refine gl_op rfl rfl rfl (op_pure hT rfl) ?_
      refine gl_nil ?_
      refine hK12 _ _ ?_
      clear hK12; try clear K12
      refine gc_ret ?_
      try simp only [x_then_ret, x_block_ret]
      refine gk_ret2 rfl rfl rfl ?_
      have e1 : floatV u = (leB u 8, 0) := by unfold floatV; rw [if_neg (by simp [c8])]
      rw [e1]
      have hi8 : i = 8 := by omega
      subst hi8
      obtain ⟨h2, h3⟩ := hS.out (i := 0) rfl
      exact ⟨A, c, rfl, h2, h3⟩
theorem ReadFloat_calls (A : Option Addr) (c : Nat) (l : List UInt8) (at_ : Int) (w : World) {ok : Nat → Prop} (h1 : RdE w ok uB A l) (hb : l.length ≤ 4611686018427387904) (hmin : -9223372036854775808 ≤ at_) :
    Calls Tryd.prog 90 ⟨[.slice A l.length c, .int .i64 at_]⟩ w fun e w' => e = .returned (.tuple #[.float .f64 (readFloatV l at_).1, .int .i64 (readFloatV l at_).2.1, .int .i64 (readFloatV l at_).2.2]) ∧ Eqv w w' := by
  refine gc_enter (N := 45) Tryd.func90 rfl rfl rfl [(0, _), (1, _)] rfl ?_
  refine gc_seq fun K1 hK1 => ?_
  refine gc_region ?_
  refine gl_op rfl rfl rfl (op_pure hT rfl) ?_
  refine gl_op rfl rfl rfl (op_pure hT rfl) ?_
  refine gl_op rfl rfl rfl (op_pure hT rfl) ?_
  refine gl_nil ?_
  refine hK1 _ _ ?_
  clear hK1; try clear K1
  refine gc_seq fun K2 hK2 => ?_
  refine gc_seq fun K3 hK3 => ?_
  refine gc_region ?_
  refine gl_op rfl rfl rfl (op_pure hT rfl) ?_
  refine gl_op rfl rfl rfl (op_pure hT rfl) ?_
  refine gl_op rfl rfl rfl (op_pure hT rfl) ?_
  refine gl_split (t := 11) rfl (fun c11 => ?_) (fun c11 => ?_)
  · try simp only [decide_eq_true_eq, decide_eq_false_iff_not, Bool.not_eq_true', Bool.not_eq_false', Int.not_lt, Int.not_le, Nat.not_lt, Nat.not_le, Bool.true_eq, Bool.false_eq, reduceCtorEq] at c11
    refine gl_pass rfl rfl rfl rfl rfl rfl ?_
    refine gl_pass rfl rfl rfl rfl rfl rfl ?_
    refine gl_pass rfl rfl rfl rfl rfl rfl ?_
    refine gl_pass rfl rfl rfl rfl rfl rfl ?_
    refine gl_op rfl rfl rfl (op_pure hT rfl) ?_
    refine gl_nil ?_
    refine hK3 _ _ ?_
    clear hK3; try clear K3
    refine gc_cond_t rfl ?_
    refine gc_seq fun K4 hK4 => ?_
    refine gc_region ?_
    refine gl_op rfl rfl rfl (op_pure hT rfl) ?_
    refine gl_op rfl rfl rfl (op_pure hT rfl) ?_
    refine gl_op rfl rfl rfl (op_pure hT rfl) ?_
    refine gl_nil ?_
    refine hK4 _ _ ?_
    clear hK4; try clear K4
    refine gc_ret ?_
    try simp only [x_then_ret, x_block_ret]
    refine gk_ret3 rfl rfl rfl rfl ?_
    exact ⟨by unfold readFloatV; rw [if_pos (by omega)], Eqv.refl _⟩
  · try simp only [decide_eq_true_eq, decide_eq_false_iff_not, Bool.not_eq_true', Bool.not_eq_false', Int.not_lt, Int.not_le, Nat.not_lt, Nat.not_le, Bool.true_eq, Bool.false_eq, reduceCtorEq] at c11
    refine gl_un rfl rfl rfl rfl ?_
    refine gl_op rfl rfl rfl (op_pure hT rfl) ?_
    refine gl_un rfl rfl rfl rfl ?_
    refine gl_op rfl rfl rfl (op_pure hT rfl) ?_
    refine gl_un rfl rfl rfl rfl ?_
    refine gl_op rfl rfl rfl (op_pure hT rfl) ?_
    refine gl_un rfl rfl rfl rfl ?_
    refine gl_op rfl rfl rfl (op_pure hT rfl) ?_
    refine gl_op rfl rfl rfl (op_pure hT rfl) ?_
    refine gl_nil ?_
    refine hK3 _ _ ?_
    clear hK3; try clear K3
    refine gc_cond rfl rfl (fun c16 => ?_) (fun c16 => ?_)
    · try simp only [decide_eq_true_eq, decide_eq_false_iff_not, Bool.not_eq_true', Bool.not_eq_false', Int.not_lt, Int.not_le, Nat.not_lt, Nat.not_le, Bool.true_eq, Bool.false_eq, reduceCtorEq] at c16
      refine gc_seq fun K5 hK5 => ?_
      refine gc_region ?_
      refine gl_op rfl rfl rfl (op_pure hT rfl) ?_
      refine gl_op rfl rfl rfl (op_pure hT rfl) ?_
      refine gl_op rfl rfl rfl (op_pure hT rfl) ?_
      refine gl_nil ?_
      refine hK5 _ _ ?_
      clear hK5; try clear K5
      refine gc_ret ?_
      try simp only [x_then_ret, x_block_ret]
      refine gk_ret3 rfl rfl rfl rfl ?_
      exact ⟨by unfold readFloatV; rw [if_pos (by omega)], Eqv.refl _⟩
    · try simp only [decide_eq_true_eq, decide_eq_false_iff_not, Bool.not_eq_true', Bool.not_eq_false', Int.not_lt, Int.not_le, Nat.not_lt, Nat.not_le, Bool.true_eq, Bool.false_eq, reduceCtorEq] at c16
      refine gc_skip ?_
      refine hK2 _ _ ?_
      clear hK2; try clear K2
      refine gc_seq fun K6 hK6 => ?_
      refine gc_seq fun K7 hK7 => ?_
      refine gc_region ?_
      refine gl_op rfl rfl rfl (op_pure hT rfl) ?_
      refine gl_op rfl rfl rfl (op_pure hT rfl) ?_
      refine gl_op rfl rfl rfl (op_pure hT rfl) ?_
      first | refine gl_fit hT rfl rfl rfl rfl (by omega) ?_ | refine gl_op rfl rfl rfl (op_pure hT rfl) ?_
      refine gl_op rfl rfl rfl (op_pure hT rfl) ?_
      refine gl_nil ?_
      refine hK7 _ _ ?_
      clear hK7; try clear K7
      refine gc_cond rfl rfl (fun c21 => ?_) (fun c21 => ?_)
      · try simp only [decide_eq_true_eq, decide_eq_false_iff_not, Bool.not_eq_true', Bool.not_eq_false', Int.not_lt, Int.not_le, Nat.not_lt, Nat.not_le, Bool.true_eq, Bool.false_eq, reduceCtorEq] at c21
        refine gc_seq fun K8 hK8 => ?_
        refine gc_region ?_
        refine gl_op rfl rfl rfl (op_pure hT rfl) ?_
        refine gl_op rfl rfl rfl (op_pure hT rfl) ?_
        refine gl_op rfl rfl rfl (op_pure hT rfl) ?_
        refine gl_nil ?_
        refine hK8 _ _ ?_
        clear hK8; try clear K8
        refine gc_ret ?_
        try simp only [x_then_ret, x_block_ret]
        refine gk_ret3 rfl rfl rfl rfl ?_
        exact ⟨by unfold readFloatV; rw [if_neg (by omega), if_pos c21], Eqv.refl _⟩
      · try simp only [decide_eq_true_eq, decide_eq_false_iff_not, Bool.not_eq_true', Bool.not_eq_false', Int.not_lt, Int.not_le, Nat.not_lt, Nat.not_le, Bool.true_eq, Bool.false_eq, reduceCtorEq] at c21
        refine gc_skip ?_
        refine hK6 _ _ ?_
        clear hK6; try clear K6
        refine gc_seq fun K9 hK9 => ?_
        refine gc_region ?_
        refine gl_op rfl rfl rfl (op_pure hT rfl) ?_
        refine gl_nil ?_
        refine hK9 _ _ ?_
        clear hK9; try clear K9
        refine gc_seq fun K10 hK10 => ?_
        refine gc_seq fun K11 hK11 => ?_
        refine gc_region ?_
        refine gl_op rfl rfl rfl (op_pure hT rfl) ?_
        refine gl_nil ?_
        refine hK11 _ _ ?_
        clear hK11; try clear K11
        refine gc_block ?_
        refine gc_loop (fun k a w' => ∃ (i : Nat), Fr 45 a [(0, .slice A l.length c), (1, .int .i64 at_), (7, .int .u64 (vLE l at_.toNat i : Nat)), (22, .int .i64 i)] ∧ i ≤ 8 ∧ k = 9 - i ∧ w = w') 9 ?_ ?_ ?_
        · intro a ha; exact ⟨0, ha.sub ⟨rfl, rfl, rfl, rfl, trivial⟩, by omega, by omega, rfl⟩
        · rintro a w ⟨i, _, h1, h2, _⟩; omega
        rintro k a _ ⟨i, hF, hi, hk, rfl⟩
        refine gc_of hF ?_
        have hv := vLE_lt l at_.toNat i
        refine gc_seq fun K12 hK12 => ?_
        refine gc_region ?_
        refine gl_op rfl rfl rfl (op_pure hT rfl) ?_
        refine gl_nil ?_
        refine hK12 _ _ ?_
        clear hK12; try clear K12
        refine gc_seq fun K13 hK13 => ?_
        refine gc_cond rfl rfl (fun c23 => ?_) (fun c23 => ?_)
        · try simp only [decide_eq_true_eq, decide_eq_false_iff_not, Bool.not_eq_true', Bool.not_eq_false', Int.not_lt, Int.not_le, Nat.not_lt, Nat.not_le, Bool.true_eq, Bool.false_eq, reduceCtorEq] at c23
          refine gc_skip ?_
          refine hK13 _ _ ?_
          clear hK13; try clear K13
          refine gc_seq fun K14 hK14 => ?_
          refine gc_block ?_
          refine gc_seq fun K15 hK15 => ?_
          refine gc_region ?_
          refine gl_op rfl rfl rfl (op_pure hT rfl) ?_
          refine gl_op rfl rfl rfl (op_pure hT rfl) ?_
          refine gl_nil ?_
          refine hK15 _ _ ?_
          clear hK15; try clear K15
          refine gc_region ?_
          refine gl_op rfl rfl rfl (op_pure hT rfl) ?_
          refine gl_op rfl rfl rfl (op_pure hT rfl) ?_
          refine gl_op rfl rfl rfl (op_pure hT rfl) ?_
          refine gl_op rfl rfl rfl (op_pure hT rfl) ?_
          first | refine gl_fit hT rfl rfl rfl rfl (by omega) ?_ | refine gl_op rfl rfl rfl (op_pure hT rfl) ?_
          refine gl_ix (0 : UInt8) hT h1 rfl rfl rfl rfl rfl el5.cellsOf.1 el5.cellsOf.2 rfl (by simp) rfl (by omega) (by first | omega | (simp; omega)) fun p30 hp30 => ?_
          have hx : (at_ + (i : Int)).toNat = at_.toNat + i := by omega
          rw [hx] at hp30
          have hb8 := (l.getD (at_.toNat + i) 0).toNat_lt
          have hs := or_step8 (vLE l at_.toNat i) (l.getD (at_.toNat + i) 0).toNat i (by omega) hv (by omega)
          refine gl_op rfl rfl rfl (op_load hT rfl rfl rfl rfl hp30) ?_
          refine gl_op rfl rfl rfl (op_pure hT rfl) ?_
          refine gl_spell 32 (v := .int .u64 ((l.getD (at_.toNat + i) 0).toNat : Nat)) rfl (by rw [IntKind.wrap_u64, Int.emod_eq_of_lt (by omega) (by omega)]) ?_
          refine gl_op rfl rfl rfl (op_pure hT rfl) ?_
          first | refine gl_fit hT rfl rfl rfl rfl (by omega) ?_ | refine gl_op rfl rfl rfl (op_pure hT rfl) ?_
          refine gl_op rfl rfl rfl (op_shl rfl rfl rfl (by omega) (by first | omega | (simp [IntKind.bits]; omega))) ?_
          refine gl_op rfl rfl rfl (op_pure hT rfl) ?_
          refine gl_spell 36 (v := .int .u64 (vLE l at_.toNat (i + 1) : Nat)) rfl (by rw [hs.1]; rfl) ?_
          refine gl_op rfl rfl rfl (op_pure hT rfl) ?_
          refine gl_nil ?_
          refine hK14 _ _ ?_
          clear hK14; try clear K14
          refine gc_region ?_
          first | refine gl_fit hT rfl rfl rfl rfl (by omega) ?_ | refine gl_op rfl rfl rfl (op_pure hT rfl) ?_
          refine gl_op rfl rfl rfl (op_pure hT rfl) ?_
          refine gl_nil ?_
          intro a ha
          exact ⟨i + 1, ha.sub ⟨rfl, rfl, rfl, rfl, trivial⟩, by omega, by omega, rfl⟩
        · try simp only [decide_eq_true_eq, decide_eq_false_iff_not, Bool.not_eq_true', Bool.not_eq_false', Int.not_lt, Int.not_le, Nat.not_lt, Nat.not_le, Bool.true_eq, Bool.false_eq, reduceCtorEq] at c23
          refine gc_exit ?_
          refine hK10 _ _ ?_
          clear hK10; try clear K10
          refine gc_seq fun K16 hK16 => ?_
          refine gc_seq fun K17 hK17 => ?_
          refine gc_region ?_
          refine gl_op rfl rfl rfl (op_pure hT rfl) ?_
          have hi8 : i = 8 := by omega
          subst hi8
          have h12 : (256 : Nat) ^ 8 = 18446744073709551616 := by decide
          refine gl_callf rfl rfl rfl rfl Tryd.func71 rfl rfl rfl (fine_calls (vLE l at_.toNat 8) (by omega) _) ?_
          rintro _ _ ⟨rfl, n39, rfl⟩
          refine ⟨_, rfl, ?_⟩
          refine gl_op rfl rfl rfl (op_pure hT rfl) ?_
          refine gl_nil ?_
          refine hK17 _ _ ?_
          clear hK17; try clear K17
          refine gc_cond rfl rfl (fun c40 => ?_) (fun c40 => ?_)
          · try simp only [decide_eq_true_eq, decide_eq_false_iff_not, Bool.not_eq_true', Bool.not_eq_false', Int.not_lt, Int.not_le, Nat.not_lt, Nat.not_le, Bool.true_eq, Bool.false_eq, reduceCtorEq] at c40
            refine gc_seq fun K18 hK18 => ?_
            refine gc_region ?_
            refine gl_op rfl rfl rfl (op_pure hT rfl) ?_
            refine gl_op rfl rfl rfl (op_pure hT rfl) ?_
            refine gl_op rfl rfl rfl (op_pure hT rfl) ?_
            refine gl_nil ?_
            refine hK18 _ _ ?_
            clear hK18; try clear K18
            refine gc_ret ?_
            try simp only [x_then_ret, x_block_ret]
            refine gk_ret3 rfl rfl rfl rfl ?_
            exact ⟨by unfold readFloatV; rw [if_neg (by omega), if_neg (by omega), if_pos c40], ⟨_, rfl⟩⟩
          · try simp only [decide_eq_true_eq, decide_eq_false_iff_not, Bool.not_eq_true', Bool.not_eq_false', Int.not_lt, Int.not_le, Nat.not_lt, Nat.not_le, Bool.true_eq, Bool.false_eq, reduceCtorEq] at c40
            refine gc_skip ?_
            refine hK16 _ _ ?_
            clear hK16; try clear K16
            refine gc_seq fun K19 hK19 => ?_
            refine gc_region ?_
            refine gl_op rfl rfl rfl (op_pure hT rfl) ?_
            refine gl_callf rfl rfl rfl rfl Tryd.func97 rfl rfl rfl (ApiFloat_calls _ _) ?_
            rintro _ _ ⟨rfl, n42, rfl⟩
            refine ⟨_, rfl, ?_⟩
            refine gl_op rfl rfl rfl (op_pure hT rfl) ?_
            first | refine gl_fit hT rfl rfl rfl rfl (by omega) ?_ | refine gl_op rfl rfl rfl (op_pure hT rfl) ?_
            refine gl_op rfl rfl rfl (op_pure hT rfl) ?_
            refine gl_op rfl rfl rfl (op_pure hT rfl) ?_
            refine gl_op rfl rfl rfl (op_pure hT rfl) ?_
            refine gl_nil ?_
            refine hK19 _ _ ?_
            clear hK19; try clear K19
            refine gc_ret ?_
            try simp only [x_then_ret, x_block_ret]
            refine gk_ret3 rfl rfl rfl rfl ?_
            exact ⟨by unfold readFloatV; rw [if_neg (by omega), if_neg (by omega), if_neg (by simp [c40])], ⟨_, rfl⟩⟩
end Go.Proofs.YtnomlloaahoceaaDoor

