/- Contracts of small functions. No condition. -/
import Derived.Test.YtpeomdobcobdiaaDoorTy
namespace Go.Proofs.YtpeomdobcobdiaaDoor
open Go.RowKit
set_option linter.unusedVariables false
set_option linter.unusedSimpArgs false
theorem outside_calls (A : Option Addr) (c : Nat) (l : List UInt8) (i : Int) (w : World) :
    Calls Tryd.prog 52 ⟨[.slice A l.length c, .int .i64 i]⟩ w fun e w' => e = .returned (.bool (decide (i < 0 ∨ l.length < i))) ∧ Eqv w w' := by
  refine gc_enter (N := 13) Tryd.func52 rfl rfl rfl [(0, _), (1, _)] rfl ?_
  refine gc_seq fun K1 hK1 => ?_
  refine gc_region ?_
  refine gl_op rfl rfl rfl (op_pure hT rfl) ?_
  refine gl_nil ?_
  refine hK1 _ _ ?_
  clear hK1; try clear K1
  refine gc_seq fun K2 hK2 => ?_
  refine gc_region ?_
  refine gl_op rfl rfl rfl (op_pure hT rfl) ?_
  refine gl_op rfl rfl rfl (op_pure hT rfl) ?_
  refine gl_op rfl rfl rfl (op_pure hT rfl) ?_
  refine gl_split (t := 7) rfl (fun c7 => ?_) (fun c7 => ?_)
  · try simp only [decide_eq_true_eq, decide_eq_false_iff_not, Bool.not_eq_true', Bool.not_eq_false', Int.not_lt, Int.not_le, Nat.not_lt, Nat.not_le, Bool.true_eq, Bool.false_eq, reduceCtorEq] at c7
    refine gl_pass rfl rfl rfl rfl rfl rfl ?_
    refine gl_pass rfl rfl rfl rfl rfl rfl ?_
    refine gl_pass rfl rfl rfl rfl rfl rfl ?_
    refine gl_pass rfl rfl rfl rfl rfl rfl ?_
    refine gl_op rfl rfl rfl (op_pure hT rfl) ?_
    refine gl_op rfl rfl rfl (op_pure hT rfl) ?_
    refine gl_nil ?_
    refine hK2 _ _ ?_
    clear hK2; try clear K2
    refine gc_ret ?_
    try simp only [x_then_ret, x_block_ret]
    refine gk_ret1 rfl rfl ?_
    exact ⟨by simp [c7], Eqv.refl _⟩
  · try simp only [decide_eq_true_eq, decide_eq_false_iff_not, Bool.not_eq_true', Bool.not_eq_false', Int.not_lt, Int.not_le, Nat.not_lt, Nat.not_le, Bool.true_eq, Bool.false_eq, reduceCtorEq] at c7
    refine gl_un rfl rfl rfl rfl ?_
    refine gl_op rfl rfl rfl (op_pure hT rfl) ?_
    refine gl_un rfl rfl rfl rfl ?_
    refine gl_op rfl rfl rfl (op_pure hT rfl) ?_
    refine gl_un rfl rfl rfl rfl ?_
    refine gl_op rfl rfl rfl (op_pure hT rfl) ?_
    refine gl_un rfl rfl rfl rfl ?_
    refine gl_op rfl rfl rfl (op_pure hT rfl) ?_
    refine gl_op rfl rfl rfl (op_pure hT rfl) ?_
    refine gl_op rfl rfl rfl (op_pure hT rfl) ?_
    refine gl_nil ?_
    refine hK2 _ _ ?_
    clear hK2; try clear K2
    refine gc_ret ?_
    try simp only [x_then_ret, x_block_ret]
    refine gk_ret1 rfl rfl ?_
    exact ⟨by simp; omega, Eqv.refl _⟩
theorem same_at {l1 l2 : List UInt8} (hl : l1.length = l2.length) (h : ∀ j, j < l1.length → l1.getD j 0 = l2.getD j 0) : l1 = l2 := by
  apply List.ext_getElem hl
  intro i h1 h2
  have := h i h1
  simpa [List.getD_eq_getElem?_getD, h1, h2] using this
theorem uB_inj {a b : UInt8} (h : (a.toNat : Int) = b.toNat) : a = b := UInt8.toNat_inj.1 (by omega)
theorem Same_calls (A1 A2 : Option Addr) (c1 c2 : Nat) (l1 l2 : List UInt8) (w : World) {ok1 ok2 : Nat → Prop} (h1 : RdE w ok1 uB A1 l1) (h2 : RdE w ok2 uB A2 l2) (hb : l1.length ≤ 9223372036854775807) :
    Calls Tryd.prog 18 ⟨[.slice A1 l1.length c1, .slice A2 l2.length c2]⟩ w fun e w' => e = .returned (.bool (decide (l1 = l2))) ∧ Eqv w w' := by
  refine gc_enter (N := 26) Tryd.func18 rfl rfl rfl [(0, _), (1, _)] rfl ?_
  refine gc_seq fun K1 hK1 => ?_
  refine gc_region ?_
  refine gl_op rfl rfl rfl (op_pure hT rfl) ?_
  refine gl_nil ?_
  refine hK1 _ _ ?_
  clear hK1; try clear K1
  refine gc_seq fun K2 hK2 => ?_
  refine gc_seq fun K3 hK3 => ?_
  refine gc_region ?_
  refine gl_op rfl rfl rfl (op_pure hT rfl) ?_
  refine gl_op rfl rfl rfl (op_pure hT rfl) ?_
  refine gl_op rfl rfl rfl (op_pure hT rfl) ?_
  refine gl_op rfl rfl rfl (op_pure hT rfl) ?_
  refine gl_op rfl rfl rfl (op_pure hT rfl) ?_
  refine gl_nil ?_
  refine hK3 _ _ ?_
  clear hK3; try clear K3
  refine gc_cond rfl rfl (fun c10 => ?_) (fun c10 => ?_)
  · try simp only [decide_eq_true_eq, decide_eq_false_iff_not, Bool.not_eq_true', Bool.not_eq_false', Int.not_lt, Int.not_le, Nat.not_lt, Nat.not_le, Bool.true_eq, Bool.false_eq, reduceCtorEq] at c10
    refine gc_seq fun K4 hK4 => ?_
    refine gc_region ?_
    refine gl_op rfl rfl rfl (op_pure hT rfl) ?_
    refine gl_nil ?_
    refine hK4 _ _ ?_
    clear hK4; try clear K4
    refine gc_ret ?_
    try simp only [x_then_ret, x_block_ret]
    refine gk_ret1 rfl rfl ?_
    exact ⟨by rw [decide_eq_false (fun h => c10 (by rw [h]))], Eqv.refl _⟩
  · try simp only [decide_eq_true_eq, decide_eq_false_iff_not, Bool.not_eq_true', Bool.not_eq_false', Int.not_lt, Int.not_le, Nat.not_lt, Nat.not_le, Bool.true_eq, Bool.false_eq, reduceCtorEq] at c10
    refine gc_skip ?_
    refine hK2 _ _ ?_
    clear hK2; try clear K2
    refine gc_seq fun K5 hK5 => ?_
    refine gc_seq fun K6 hK6 => ?_
    refine gc_region ?_
    refine gl_op rfl rfl rfl (op_pure hT rfl) ?_
    refine gl_nil ?_
    refine hK6 _ _ ?_
    clear hK6; try clear K6
    refine gc_block ?_
    refine gc_loop (fun k a w' => ∃ i : Nat, Fr 26 a [(0, .slice A1 l1.length c1), (1, .slice A2 l2.length c2), (5, .int .i64 i)] ∧ i ≤ l1.length ∧ k = l1.length - i + 1 ∧ (∀ j, j < i → l1.getD j 0 = l2.getD j 0) ∧ Eqv w w') (l1.length + 1) ?_ ?_ ?_
    · intro a ha; exact ⟨0, ha.sub ⟨rfl, rfl, rfl, trivial⟩, by omega, by omega, fun j hj => by omega, Eqv.refl _⟩
    · rintro a w ⟨i, _, h1, h2, _⟩; omega
    rintro k a _ ⟨i, hF, hi, hk, hj, n, rfl⟩
    refine gc_of hF ?_
    refine gc_seq fun K7 hK7 => ?_
    refine gc_seq fun K8 hK8 => ?_
    refine gc_region ?_
    refine gl_op rfl rfl rfl (op_pure hT rfl) ?_
    refine gl_op rfl rfl rfl (op_pure hT rfl) ?_
    refine gl_op rfl rfl rfl (op_pure hT rfl) ?_
    refine gl_op rfl rfl rfl (op_pure hT rfl) ?_
    refine gl_nil ?_
    refine hK8 _ _ ?_
    clear hK8; try clear K8
    refine gc_cond rfl rfl (fun c14 => ?_) (fun c14 => ?_)
    · try simp only [decide_eq_true_eq, decide_eq_false_iff_not, Bool.not_eq_true', Bool.not_eq_false', Int.not_lt, Int.not_le, Nat.not_lt, Nat.not_le, Bool.true_eq, Bool.false_eq, reduceCtorEq] at c14
      refine gc_skip ?_
      refine hK7 _ _ ?_
      clear hK7; try clear K7
      refine gc_seq fun K9 hK9 => ?_
      refine gc_block ?_
      refine gc_seq fun K10 hK10 => ?_
      refine gc_quiet (by kernel_rfl) (by kernel_rfl) ?_
      refine gq_op rfl rfl rfl (op_pure hT rfl) ?_
      refine gq_op rfl rfl rfl (op_pure hT rfl) ?_
      refine gq_ix (0 : UInt8) hT h1 rfl rfl rfl rfl rfl el5.cellsOf.1 el5.cellsOf.2 rfl (by simp) rfl (by omega) (by first | omega | (simp; omega)) fun p19 hp19 => ?_
      refine gq_op rfl rfl rfl (op_load hT rfl rfl rfl rfl hp19) ?_
      refine gq_op rfl rfl rfl (op_pure hT rfl) ?_
      refine gq_op rfl rfl rfl (op_pure hT rfl) ?_
      refine gq_ix (0 : UInt8) hT h2 rfl rfl rfl rfl rfl el5.cellsOf.1 el5.cellsOf.2 rfl (by simp) rfl (by omega) (by first | omega | (simp; omega)) fun p23 hp23 => ?_
      refine gq_op rfl rfl rfl (op_load hT rfl rfl rfl rfl hp23) ?_
      refine gq_op rfl rfl rfl (op_pure hT rfl) ?_
      refine gq_nil fun nq1 => ?_
      refine hK10 _ _ ?_
      clear hK10; try clear K10
      refine gc_cond rfl rfl (fun c25 => ?_) (fun c25 => ?_)
      · try simp only [decide_eq_true_eq, decide_eq_false_iff_not, Bool.not_eq_true', Bool.not_eq_false', Int.not_lt, Int.not_le, Nat.not_lt, Nat.not_le, Bool.true_eq, Bool.false_eq, reduceCtorEq] at c25
        refine gc_seq fun K11 hK11 => ?_
        refine gc_region ?_
        refine gl_op rfl rfl rfl (op_pure hT rfl) ?_
        refine gl_nil ?_
        refine hK11 _ _ ?_
        clear hK11; try clear K11
        refine gc_ret ?_
        try simp only [x_then_ret, x_block_ret]
        refine gk_ret1 rfl rfl ?_
        exact ⟨by rw [decide_eq_false (fun h => c25 (by rw [h]))], Eqv.trans ⟨n, rfl⟩ ⟨_, rfl⟩⟩
      · try simp only [decide_eq_true_eq, decide_eq_false_iff_not, Bool.not_eq_true', Bool.not_eq_false', Int.not_lt, Int.not_le, Nat.not_lt, Nat.not_le, Bool.true_eq, Bool.false_eq, reduceCtorEq] at c25
        refine gc_skip ?_
        refine hK9 _ _ ?_
        clear hK9; try clear K9
        refine gc_region ?_
        refine gl_op rfl rfl rfl (op_pure hT rfl) ?_
        first | refine gl_fit hT rfl rfl rfl rfl (by omega) ?_ | refine gl_op rfl rfl rfl (op_pure hT rfl) ?_
        refine gl_op rfl rfl rfl (op_pure hT rfl) ?_
        refine gl_nil ?_
        intro a ha
        refine ⟨i + 1, ha.sub ⟨rfl, rfl, rfl, trivial⟩, by omega, by omega, fun j hj' => ?_, Eqv.trans ⟨n, rfl⟩ ⟨_, rfl⟩⟩
        rcases Nat.lt_succ_iff_lt_or_eq.1 hj' with h | rfl
        · exact hj j h
        · exact uB_inj (by simpa using c25)
    · try simp only [decide_eq_true_eq, decide_eq_false_iff_not, Bool.not_eq_true', Bool.not_eq_false', Int.not_lt, Int.not_le, Nat.not_lt, Nat.not_le, Bool.true_eq, Bool.false_eq, reduceCtorEq] at c14
      refine gc_exit ?_
      refine hK5 _ _ ?_
      clear hK5; try clear K5
      refine gc_seq fun K12 hK12 => ?_
      refine gc_region ?_
      refine gl_op rfl rfl rfl (op_pure hT rfl) ?_
      refine gl_nil ?_
      refine hK12 _ _ ?_
      clear hK12; try clear K12
      refine gc_ret ?_
      try simp only [x_then_ret, x_block_ret]
      refine gk_ret1 rfl rfl ?_
      exact ⟨by rw [decide_eq_true (same_at (by omega) fun j hj' => hj j (by omega))], ⟨n, rfl⟩⟩
end Go.Proofs.YtpeomdobcobdiaaDoor
