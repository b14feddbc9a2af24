/- Contracts of functions that CodeProps reaches, and words to say them. No condition. -/
import Derived.Test.YtnomlloaahoceaaDoorZ31
/- The first example's question: what is written and read of it. No condition. -/
namespace Go.Proofs.YtnomlloaahoceaaDoor
open Go.RowKit
set_option linter.unusedVariables false
set_option linter.unusedSimpArgs false
def exP : Px := ⟨[0], [], 0, [], 1, 0, 1⟩
def exPb : List UInt8 := [65, 77, 66, 80, 1, 1, 0, 0, 0, 0, 0, 0, 0, 0, 0, 1, 0, 1, 0, 1]
theorem exForm : formV exP = (0, 0) := by decide
theorem exEnc : encP exP = exPb := by
  have h1 : encs [(1 : Int)] = [1] := by simp [encs, uintV, encU_small]
  have h2 : encs [(0 : Int)] = [0] := by simp [encs, uintV, encU_small]
  have h3 : encf [0] = [0, 0, 0, 0, 0, 0, 0, 0] := by
    unfold encf floatV
    simp [numB, leB]
  have h4 : encs [1, 0] = [1, 0] := by simp [encs, uintV, encU_small]
  have h5 : encs [1, 0, 1] = [1, 0, 1] := by simp [encs, uintV, encU_small]
  show hdP ++ encs [(1 : Int)] ++ encf [0] ++ encs [(0 : Int)] ++ [] ++ encs [1, 0] ++ [] ++ encs [1, 0, 1] = exPb
  rw [h1, h2, h3, h4, h5]
  rfl
@[reducible] def exPv (v : Nat) : List UInt8 := exPb ++ le4 v
theorem exEncV : encPV exP = exPv (crcV exPb) := by
  unfold encPV
  rw [exForm, if_neg (by decide), exEnc]
section
variable (v : Nat)
theorem eh : hdV [65, 77, 66, 80] (exPv v) = none := rfl
theorem e5 : rU (exPv v) 5 = .ok (((1 : Nat) : Int), 6) := rfl
theorem e6v : vLE (exPv v) 6 8 = 0 := by
  have h : ∀ k, k < 20 → (exPv v).getD k 0 = exPb.getD k 0 := fun k hk => by
    rw [List.getD_eq_getElem?_getD, List.getD_eq_getElem?_getD, List.getElem?_append_left hk]
  simp only [vLE]
  rw [h (6 + 0) (by decide), h (6 + 1) (by decide), h (6 + 2) (by decide), h (6 + 3) (by decide), h (6 + 4) (by decide), h (6 + 5) (by decide), h (6 + 6) (by decide), h (6 + 7) (by decide)]
  decide
theorem e6 : rFs (exPv v) 1 6 = .ok ([0], 14) := by
  have h : readFloatV (exPv v) 6 = (0, 14, 0) := by
    unfold readFloatV
    rw [if_neg (show ¬ ((6 : Int) < 0 ∨ ((exPv v).length : Int) < 6) by show ¬ ((6 : Int) < 0 ∨ (24 : Int) < 6); decide), if_neg (show ¬ (((exPv v).length : Int) - 6 < 8) by show ¬ ((24 : Int) - 6 < 8); decide)]
    rw [show (6 : Int).toNat = 6 from rfl, e6v, if_neg (by decide)]
    rfl
  have h2 : rF (exPv v) 6 = .ok (0, 14) := by
    unfold rF
    rw [h]
    rfl
  unfold rFs
  rw [h2]
  rfl
theorem e14 : rU (exPv v) 14 = .ok (((0 : Nat) : Int), 15) := rfl
theorem e15 : rU (exPv v) 15 = .ok (1, 16) := rfl
theorem e16 : rU (exPv v) 16 = .ok (((0 : Nat) : Int), 17) := rfl
theorem e17 : rU (exPv v) 17 = .ok (1, 18) := rfl
theorem e18 : rU (exPv v) 18 = .ok (0, 19) := rfl
theorem e19 : rU (exPv v) 19 = .ok (1, 20) := rfl
set_option maxRecDepth 100000 in
theorem etk : (exPv v).take 20 = exPb := rfl
set_option maxRecDepth 100000 in
theorem edr : ((exPv v).drop 20).take 4 = le4 v := rfl
end
theorem e20 : tlV (exPv (crcV exPb)) 20 = none := by
  unfold tlV
  rw [if_neg (show ¬ (((exPv (crcV exPb)).length : Int) - 20 < 4) by show ¬ ((24 : Int) - 20 < 4); decide), if_neg, if_neg (show ¬ ((20 : Int) + 4 < ((exPv (crcV exPb)).length : Int)) by show ¬ ((20 : Int) + 4 < (24 : Int)); decide)]
  intro h
  have e1 : (exPv (crcV exPb)).take ((20 : Int)).toNat = exPb := etk _
  have e2 : ((exPv (crcV exPb)).drop ((20 : Int)).toNat).take 4 = le4 (crcV exPb) := edr _
  rw [e1, e2] at h
  exact h rfl
theorem exDec : decPropV (exPv (crcV exPb)) = .ok exP := by
  rw [decPropV_0 (eh _), dpN_0 (e5 _) (by decide) (e6 _), dpGx_0 (e14 _) (by decide)]
  show dpT _ ⟨[0], [], 0, [], 0, 0, 0⟩ 15 = _
  rw [dpT_0 (e15 _), dpM_0 (e16 _) (by decide)]
  show dpNums _ ⟨[0], [], 1 - 1, [], 0, 0, 0⟩ 15 17 = _
  rw [dpNums_0 (e17 _) (e18 _) (e19 _)]
  show dpTail _ exP 15 20 = _
  exact dpTail_0 (by rw [exForm]; decide) e20
theorem exWm : exW.map uB = [.int .u8 65, .int .u8 77, .int .u8 66, .int .u8 78, .int .u8 1, .int .u8 1, .int .u8 1, .int .u8 1, .int .u8 1, .int .u8 8, .int .u8 0, .int .u8 0, .int .u8 0, .int .u8 0, .int .u8 0, .int .u8 0, .int .u8 224, .int .u8 63, .int .u8 0] := rfl
theorem exBm : exB.map uB = exW.map uB ++ (le4 (crcV exW)).map uB := by
  unfold exB
  rw [List.map_append]
theorem exW19 : (exW.map uB).length = 19 := rfl
theorem exW19' : exW.length = 19 := rfl
theorem exHalf : (FloatKind.f64.format.order exA 4602678819172646912 == some Ordering.eq) = true := by first | decide | kernel_rfl
theorem exLen {l : List UInt8} (hl : l = exPv (crcV exPb)) : l.length = 24 := by rw [hl]; rfl
theorem exEncodeProp (l : List UInt8) (hl : l = exPv (crcV exPb)) (C G M : Sv) (SG SM : List Sv) (w : World) {ok : Nat → Prop} (D : PrM w ok C G M SG SM exP) :
    Calls Tryd.prog 7 ⟨[.agg ⟨propC C G M exP⟩]⟩ w fun e w' => ∃ A c, e = .returned (.tuple #[.slice A 24 c, .int .i64 0, .int .i64 0]) ∧ St w.heap.size w w' [.row A c 5 1 24 (l.map uB)] := by
  have h := encodeProp_calls C G M SG SM exP w D
  rw [exForm, exEncV, ← hl, exLen hl] at h
  exact h
theorem exDecodeProp (l : List UInt8) (hl : l = exPv (crcV exPb)) (A : Option Addr) (c : Nat) (w : World) {ok : Nat → Prop} (h1 : RdE w ok uB A l) (hc : 24 ≤ c) :
    Calls Tryd.prog 28 ⟨[.slice A 24 c]⟩ w fun e w' => ∃ C G M K p, e = .returned (.tuple #[.agg ⟨propC C G M p⟩, .int .i64 0, .int .i64 0]) ∧ St w.heap.size w w' [.keep K w'] ∧ C.2.1 = 1 ∧ p.S = 1 := by
  have hlen := exLen hl
  refine (decodeProp_calls A 24 c l w h1 hlen.symm hc (by omega)).mono fun e w' hR => ?_
  obtain ⟨C, G, M, SG, SM, K, h2, h3, hP, _⟩ := dpR_one hR
  have htp : toldP l = (exP, 0, 0) := by unfold toldP; rw [hl, exDec]
  rw [htp] at h2 hP
  exact ⟨C, G, M, K, exP, h2, h3, hP.nC, rfl⟩
end Go.Proofs.YtnomlloaahoceaaDoor

