/- Plain words for the limits: lists of noughts. No program in sight; no condition. -/
import Derived.Test.YtkfhablonnjgeaaDoorMdN
namespace Go.Proofs.YtkfhablonnjgeaaDoor
set_option linter.unusedVariables false
set_option linter.unusedSimpArgs false
theorem numsV_rep (n : Nat) : numsV (List.replicate n 0) = true := by
  unfold numsV
  rw [List.all_eq_true]
  intro x hx
  rw [(List.mem_replicate.1 hx).2]
  decide
theorem rep_lt (n : Nat) : ∀ u ∈ List.replicate n 0, u < 18446744073709551616 := by
  intro u hu
  rw [(List.mem_replicate.1 hu).2]
  decide
theorem listV_rep (n : Nat) : listV (List.replicate n 0) (n : Nat) = 0 := by unfold listV; simp [numsV_rep]
theorem listsGo_rep (k : Nat) (n : Int) (hn : n = k) : ∀ (m : Nat) (f : Int), listsGo n f (List.replicate m (List.replicate k 0)) = (0, 0)
  | 0, f => rfl
  | m + 1, f => by
    rw [List.replicate_succ, listsGo, hn, listV_rep]
    simp only [ne_eq, not_true_eq_false, if_false]
    rw [← hn]
    exact listsGo_rep k n hn m _
@[reducible] def limP (k g m : Nat) (K D S : Int) : Px := ⟨List.replicate k 0, List.replicate g (List.replicate k 0), -1, List.replicate m (List.replicate 2 0), K, D, S⟩
theorem limP_big {k g m : Nat} {K D S : Int} (hk : 1 ≤ k ∧ k ≤ 256) (h : 256 < g) : propV (limP k g m K D S) (k : Nat) 1 = (65, 0) := by
  unfold propV
  rw [if_neg (by omega), if_neg (by rw [listV_rep]; simp), if_pos (by simpa using h)]
theorem limP_many {k g m : Nat} {K D S : Int} (hk : 1 ≤ k ∧ k ≤ 256) (h : g ≤ 256) (hm : 64 < m) : propV (limP k g m K D S) (k : Nat) 1 = (65, 0) := by
  unfold propV
  rw [if_neg (by omega), if_neg (by rw [listV_rep]; simp), if_neg (by simpa using h), if_neg (by rw [listsGo_rep k _ rfl]; simp), if_neg (show ¬ ((-1 : Int) < -1 ∨ (1 : Int) ≤ -1) by decide), if_pos (by simpa using hm)]
theorem limP_fit {k g m : Nat} {K D S : Int} (hk : 1 ≤ k ∧ k ≤ 256) (h : g ≤ 256) (hm : 1 ≤ m ∧ m ≤ 64) : propV (limP k g m K D S) (k : Nat) 1 = if K < 1 ∨ 8 < K ∨ D < 0 ∨ 8 < D ∨ S < 1 ∨ 1024 < S then (69, 0) else (0, 0) := by
  unfold propV
  rw [if_neg (by omega), if_neg (by rw [listV_rep]; simp), if_neg (by simpa using h), if_neg (by rw [listsGo_rep k _ rfl]; simp), if_neg (show ¬ ((-1 : Int) < -1 ∨ (1 : Int) ≤ -1) by decide), if_neg (by simpa using hm.2), if_neg (by rw [listsGo_rep 2 (1 + 1) rfl]; simp), if_neg (by simp; omega)]
@[reducible] def lnS : Sv := (none, 0, 0)
@[reducible] def limL (out : Int) (n m : Nat) (A C : Option Addr) : Lx := ⟨⟨1, out, 0, 0, 0, 0, 0, 0, 0, 0, (A, n, n), (C, m, m), lnS, lnS⟩, List.replicate n 0, List.replicate m 0, [], []⟩
@[reducible] def limR : Lx := ⟨⟨7, 0, 0, 0, 0, 0, 0, 0, 0, 0, lnS, lnS, lnS, lnS⟩, [], [], [], []⟩
@[reducible] def limZ : Lx := ⟨⟨0, 0, 0, 0, 0, 0, 0, 0, 0, 0, lnS, lnS, lnS, lnS⟩, [], [], [], []⟩
@[reducible] def lnSh : Sh := ⟨1, 1, 256⟩
theorem lim_lay1 (A C : Option Addr) : layV (limL 255 65280 255 A C) lnSh = 0 := by
  unfold layV
  have h1 : listsV (limL 255 65280 255 A C).L lnSh = ((65280, 255, 0, 0), 0) := rfl
  unfold wholeV
  rw [h1, numsV_rep, numsV_rep, List.length_replicate, List.length_replicate]
  rfl
theorem lim_lay2 (A C : Option Addr) : layV (limL 1 255 1 A C) ⟨255, 1, 1⟩ = 0 := by
  unfold layV
  have h1 : listsV (limL 1 255 1 A C).L ⟨255, 1, 1⟩ = ((255, 1, 0, 0), 0) := rfl
  unfold wholeV
  rw [h1, numsV_rep, numsV_rep, List.length_replicate, List.length_replicate]
  rfl
theorem lim_wts (out : Int) (n m : Nat) (A C : Option Addr) : wtsV (limL out n m A C) = n + m := by unfold wtsV; simp
theorem lim_two (A C A' C' : Option Addr) : shapesV lnSh [limL 255 65280 255 A C, limL 1 255 1 A' C'] = (65, 2) := by
  have e0 : shapesV lnSh [limL 255 65280 255 A C, limL 1 255 1 A' C'] = shpGo 0 [lnSh] 0 [limL 255 65280 255 A C, limL 1 255 1 A' C'] := by unfold shapesV; rw [if_neg (by decide), if_neg (show ¬ 64 < [limL 255 65280 255 A C, limL 1 255 1 A' C'].length from (by decide : ¬ 64 < 2))]
  have e1 : (outV (limL 255 65280 255 A C).L lnSh).1 = ⟨255, 1, 1⟩ := rfl
  rw [e0, shpGo]
  simp only [List.getD_cons_zero, lim_lay1, lim_wts, e1]
  rw [if_neg (by decide), if_neg (by decide), if_neg (by decide), shpGo]
  have e2 : ([lnSh] ++ [(⟨255, 1, 1⟩ : Sh)]).getD (0 + 1) ⟨0, 0, 0⟩ = ⟨255, 1, 1⟩ := rfl
  rw [e2, lim_lay2, lim_wts]
  rw [if_neg (by decide), if_neg (fun h => absurd (show (1 : Int) = 5 from h.1) (by decide)), if_pos (by decide)]
  rfl
theorem lim_one (A C : Option Addr) : shapesV lnSh [limL 255 65280 255 A C] = (0, 0) := by
  have e0 : shapesV lnSh [limL 255 65280 255 A C] = shpGo 0 [lnSh] 0 [limL 255 65280 255 A C] := by unfold shapesV; rw [if_neg (by decide), if_neg (show ¬ 64 < [limL 255 65280 255 A C].length from (by decide : ¬ 64 < 1))]
  rw [e0, shpGo]
  simp only [List.getD_cons_zero, lim_lay1, lim_wts]
  rw [if_neg (by decide), if_neg (by decide), if_neg (by decide), shpGo]
theorem lim_64 : shapesV lnSh (List.replicate 64 limR) = (0, 0) := by kernel_rfl
theorem lim_65 : shapesV lnSh (List.replicate 65 limR) = (65, 0) := by kernel_rfl
end Go.Proofs.YtkfhablonnjgeaaDoor
