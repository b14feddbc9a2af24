/- Contracts of functions that CodeProps reaches, and words to say them. No condition. -/
import Derived.Test.YtnomlloaahoceaaDoorZ11
/- Contracts of package model: model.CheckProp. No condition. -/
namespace Go.Proofs.YtnomlloaahoceaaDoor
open Go.RowKit
set_option linter.unusedVariables false
set_option linter.unusedSimpArgs false
theorem list_calls (A : Option Addr) (m c : Nat) (l : List Nat) (n : Int) (w : World) {ok : Nat → Prop} (h1 : RdE w ok fV A l) (hn : m = l.length) (hl : l.length ≤ 17592186044416) (hf : ∀ u ∈ l, u < 18446744073709551616) :
    Calls Tryd.prog 42 ⟨[.slice A m c, .int .i64 n]⟩ w fun e w' => e = .returned (.int .i64 (listV l n)) ∧ Eqv w w' := by
  subst hn
  refine gc_enter (N := 14) Tryd.func42 rfl rfl rfl [(0, _), (1, _)] rfl ?_
  have hS := St.start w
  refine gc_seq fun K1 hK1 => ?_
  refine gc_region ?_
  refine gl_op rfl rfl rfl (op_pure hT rfl) ?_
  refine gl_nil ?_
  refine hK1 _ _ ?_
  clear hK1; try clear K1
  refine gc_seq fun K2 hK2 => ?_
  refine gc_block ?_
  refine gc_seq fun K3 hK3 => ?_
  refine gc_region ?_
  refine gl_op rfl rfl rfl (op_pure hT rfl) ?_
  refine gl_op rfl rfl rfl (op_pure hT rfl) ?_
  refine gl_op rfl rfl rfl (op_pure hT rfl) ?_
  refine gl_op rfl rfl rfl (op_pure hT rfl) ?_
  refine gl_op rfl rfl rfl (op_pure hT rfl) ?_
  refine gl_nil ?_
  refine hK3 _ _ ?_
  clear hK3; try clear K3
  refine gc_cond rfl rfl (fun c5 => ?_) (fun c5 => ?_)
  · try simp only [decide_eq_true_eq, decide_eq_false_iff_not, Bool.not_eq_true', Bool.not_eq_false', Int.not_lt, Int.not_le, Nat.not_lt, Nat.not_le, Bool.true_eq, Bool.false_eq, reduceCtorEq] at c5
    refine gc_seq fun K4 hK4 => ?_
    refine gc_region ?_
    refine gl_op rfl rfl rfl (op_pure hT rfl) ?_
    refine gl_nil ?_
    refine hK4 _ _ ?_
    clear hK4; try clear K4
    refine gc_ret ?_
    try simp only [x_then_ret, x_block_ret]
    refine gk_ret1 rfl rfl ?_
    exact ⟨by unfold listV; rw [if_pos c5], Eqv.refl _⟩
  · try simp only [decide_eq_true_eq, decide_eq_false_iff_not, Bool.not_eq_true', Bool.not_eq_false', Int.not_lt, Int.not_le, Nat.not_lt, Nat.not_le, Bool.true_eq, Bool.false_eq, reduceCtorEq] at c5
    refine gc_seq fun K5 hK5 => ?_
    refine gc_region ?_
    refine gl_op rfl rfl rfl (op_pure hT rfl) ?_
    refine gl_callf rfl rfl rfl rfl Tryd.func72 rfl rfl rfl (numbers_calls _ _ _ l _ (h1.old hS) rfl hl hf) ?_
    rintro _ _ ⟨rfl, n12, rfl⟩
    refine ⟨_, rfl, ?_⟩
    have hS := hS.dr n12
    refine gl_op rfl rfl rfl (op_pure hT rfl) ?_
    refine gl_op rfl rfl rfl (op_pure hT rfl) ?_
    refine gl_nil ?_
    refine hK5 _ _ ?_
    clear hK5; try clear K5
    refine gc_cond rfl rfl (fun c10 => ?_) (fun c10 => ?_)
    · try simp only [decide_eq_true_eq, decide_eq_false_iff_not, Bool.not_eq_true', Bool.not_eq_false', Int.not_lt, Int.not_le, Nat.not_lt, Nat.not_le, Bool.true_eq, Bool.false_eq, reduceCtorEq] at c10
      refine gc_seq fun K6 hK6 => ?_
      refine gc_region ?_
      refine gl_op rfl rfl rfl (op_pure hT rfl) ?_
      refine gl_nil ?_
      refine hK6 _ _ ?_
      clear hK6; try clear K6
      refine gc_ret ?_
      try simp only [x_then_ret, x_block_ret]
      refine gk_ret1 rfl rfl ?_
      exact ⟨by unfold listV; rw [if_neg (by omega), if_pos c10], ⟨_, rfl⟩⟩
    · try simp only [decide_eq_true_eq, decide_eq_false_iff_not, Bool.not_eq_true', Bool.not_eq_false', Int.not_lt, Int.not_le, Nat.not_lt, Nat.not_le, Bool.true_eq, Bool.false_eq, reduceCtorEq] at c10
      refine gc_skip ?_
      refine hK2 _ _ ?_
      clear hK2; try clear K2
      refine gc_seq fun K7 hK7 => ?_
      refine gc_region ?_
      refine gl_op rfl rfl rfl (op_pure hT rfl) ?_
      refine gl_nil ?_
      refine hK7 _ _ ?_
      clear hK7; try clear K7
      refine gc_ret ?_
      try simp only [x_then_ret, x_block_ret]
      refine gk_ret1 rfl rfl ?_
      exact ⟨by unfold listV; rw [if_neg (by omega), if_neg (by rw [c10]; simp)], ⟨_, rfl⟩⟩
structure LsM (w : World) (ok : Nat → Prop) (A : Option Addr) (S : List Sv) (ls : List (List Nat)) : Prop where
  rS : RdE w ok svV A S
  len : S.length = ls.length
  rd : ∀ (i : Nat) x l, S[i]? = some x → ls[i]? = some l → RdE w ok fV x.1 l ∧ x.2.1 = l.length ∧ l.length ≤ 17592186044416 ∧ ∀ u ∈ l, u < 18446744073709551616
theorem LsM.old {w w' : World} {ok : Nat → Prop} {A : Option Addr} {S : List Sv} {ls : List (List Nat)} {L0 : List It} (h : LsM w ok A S ls) (hS : St w.heap.size w w' L0) : LsM w' ok A S ls :=
  ⟨h.rS.old hS, h.len, fun i x l h1 h2 => ⟨(h.rd i x l h1 h2).1.old hS, (h.rd i x l h1 h2).2⟩⟩
theorem LsM.eqv {w w' : World} {ok : Nat → Prop} {A : Option Addr} {S : List Sv} {ls : List (List Nat)} (h : LsM w ok A S ls) (he : Eqv w w') : LsM w' ok A S ls :=
  ⟨h.rS.eqv he, h.len, fun i x l h1 h2 => ⟨(h.rd i x l h1 h2).1.eqv he, (h.rd i x l h1 h2).2⟩⟩
theorem lists_calls (A : Option Addr) (m c : Nat) (S : List Sv) (ls : List (List Nat)) (n f : Int) (w : World) {ok : Nat → Prop} (hm : LsM w ok A S ls) (hn : m = ls.length) (hl : ls.length ≤ 17592186044416) (hf : 0 ≤ f ∧ f ≤ 17592186044416) :
    Calls Tryd.prog 43 ⟨[.slice A m c, .int .i64 n, .int .i64 f]⟩ w fun e w' => e = .returned (.tuple #[.int .i64 (listsGo n f ls).1, .int .i64 (if (listsGo n f ls).1 = 0 then 0 else (listsGo n f ls).2)]) ∧ Eqv w w' := by
  have hlen := hm.len
  subst hn
  refine gc_enter (N := 28) Tryd.func43 rfl rfl rfl [(0, _), (1, _), (2, _)] rfl ?_
  refine gc_seq fun K1 hK1 => ?_
  refine gc_region ?_
  refine gl_op rfl rfl rfl (op_pure hT rfl) ?_
  refine gl_op rfl rfl rfl (op_pure hT rfl) ?_
  refine gl_nil ?_
  refine hK1 _ _ ?_
  clear hK1; try clear K1
  refine gc_seq fun K2 hK2 => ?_
  refine gc_seq fun K3 hK3 => ?_
  refine gc_region ?_
  refine gl_op rfl rfl rfl (op_pure hT rfl) ?_
  refine gl_op rfl rfl rfl (op_pure hT rfl) ?_
  refine gl_op rfl rfl rfl (op_pure hT rfl) ?_
  refine gl_nil ?_
  refine hK3 _ _ ?_
  clear hK3; try clear K3
  refine gc_block ?_
  refine gc_loop (fun k a w' => ∃ i : Nat, Fr 28 a [(1, .int .i64 n), (2, .int .i64 f), (11, .slice A ls.length c), (12, .int .i64 (ls.length : Nat)), (13, .int .i64 (i : Nat))] ∧ i ≤ ls.length ∧ k = ls.length - i + 1 ∧ listsGo n f ls = listsGo n (f + i) (ls.drop i) ∧ Eqv w w') (ls.length + 1) ?_ ?_ ?_
  · intro a ha; exact ⟨0, ha.sub ⟨rfl, rfl, rfl, rfl, rfl, trivial⟩, by omega, by omega, by simp, Eqv.refl _⟩
  · rintro a w ⟨i, _, h1, h2, _⟩; omega
  rintro k a _ ⟨i, hF, hi, hk, hj, q, rfl⟩
  refine gc_of hF ?_
  refine gc_seq fun K4 hK4 => ?_
  refine gc_region ?_
  refine gl_op rfl rfl rfl (op_pure hT rfl) ?_
  refine gl_nil ?_
  refine hK4 _ _ ?_
  clear hK4; try clear K4
  refine gc_seq fun K5 hK5 => ?_
  refine gc_cond rfl rfl (fun c14 => ?_) (fun c14 => ?_)
  · try simp only [decide_eq_true_eq, decide_eq_false_iff_not, Bool.not_eq_true', Bool.not_eq_false', Int.not_lt, Int.not_le, Nat.not_lt, Nat.not_le, Bool.true_eq, Bool.false_eq, reduceCtorEq] at c14
    refine gc_skip ?_
    refine hK5 _ _ ?_
    clear hK5; try clear K5
    refine gc_seq fun K6 hK6 => ?_
    refine gc_block ?_
    refine gc_seq fun K7 hK7 => ?_
    refine gc_region ?_
    refine gl_op rfl rfl rfl (op_pure hT rfl) ?_
    have hil : i < ls.length := by omega
    obtain ⟨l, hu⟩ : ∃ l, ls[i]? = some l := ⟨_, List.getElem?_eq_getElem hil⟩
    obtain ⟨x, hx⟩ : ∃ x, S[i]? = some x := ⟨_, List.getElem?_eq_getElem (by omega)⟩
    have hdrop : ls.drop i = l :: ls.drop (i + 1) := by
      rw [List.drop_eq_getElem_cons hil]
      have : ls[i] = l := by rw [List.getElem?_eq_getElem hil] at hu; exact Option.some.inj hu
      rw [this]
    have hjl : listsGo n f ls = if listV l n ≠ 0 then (listV l n, f + i) else listsGo n (f + i + 1) (ls.drop (i + 1)) := by rw [hj, hdrop]; rfl
    obtain ⟨ad, hA, hc⟩ := (hm.rS.eqv ⟨q, rfl⟩).at (none, 0, 0) (i := (i : Int)) (by omega) (by omega)
    have hug : S.getD ((i : Int)).toNat (none, 0, 0) = x := by rw [Int.toNat_natCast, List.getD_eq_getElem?_getD, hx]; rfl
    rw [hug] at hc
    have hr := (hm.eqv ⟨q, rfl⟩).rd i x l hx hu
    refine gl_op rfl rfl rfl (op_indexAddr hT rfl rfl el22.cellsOf.1 el22.cellsOf.2 rfl rfl (by omega) (by omega) hA) ?_
    refine gl_op rfl rfl rfl (op_load hT rfl rfl rfl rfl hc) ?_
    refine gl_op rfl rfl rfl (op_pure hT rfl) ?_
    refine gl_op rfl rfl rfl (op_pure hT rfl) ?_
    refine gl_nil ?_
    refine hK7 _ _ ?_
    clear hK7; try clear K7
    refine gc_seq fun K8 hK8 => ?_
    refine gc_region ?_
    refine gl_op rfl rfl rfl (op_pure hT rfl) ?_
    refine gl_op rfl rfl rfl (op_pure hT rfl) ?_
    refine gl_callf rfl rfl rfl rfl Tryd.func42 rfl rfl rfl (list_calls _ _ _ l n _ hr.1 hr.2.1 hr.2.2.1 hr.2.2.2) ?_
    rintro _ _ ⟨rfl, n20, rfl⟩
    refine ⟨_, rfl, ?_⟩
    refine gl_op rfl rfl rfl (op_pure hT rfl) ?_
    refine gl_nil ?_
    refine hK8 _ _ ?_
    clear hK8; try clear K8
    refine gc_seq fun K9 hK9 => ?_
    refine gc_region ?_
    refine gl_op rfl rfl rfl (op_pure hT rfl) ?_
    refine gl_op rfl rfl rfl (op_pure hT rfl) ?_
    refine gl_nil ?_
    refine hK9 _ _ ?_
    clear hK9; try clear K9
    refine gc_cond rfl rfl (fun c22 => ?_) (fun c22 => ?_)
    · try simp only [decide_eq_true_eq, decide_eq_false_iff_not, Bool.not_eq_true', Bool.not_eq_false', Int.not_lt, Int.not_le, Nat.not_lt, Nat.not_le, Bool.true_eq, Bool.false_eq, reduceCtorEq] at c22
      refine gc_seq fun K10 hK10 => ?_
      refine gc_region ?_
      refine gl_op rfl rfl rfl (op_pure hT rfl) ?_
      refine gl_op rfl rfl rfl (op_pure hT rfl) ?_
      refine gl_op rfl rfl rfl (op_pure hT rfl) ?_
      first | refine gl_fit hT rfl rfl rfl rfl (by omega) ?_ | refine gl_op rfl rfl rfl (op_pure hT rfl) ?_
      refine gl_op rfl rfl rfl (op_pure hT rfl) ?_
      refine gl_op rfl rfl rfl (op_pure hT rfl) ?_
      refine gl_nil ?_
      refine hK10 _ _ ?_
      clear hK10; try clear K10
      refine gc_ret ?_
      try simp only [x_then_ret, x_block_ret]
      refine gk_ret2 rfl rfl rfl ?_
      rw [if_pos c22] at hjl
      exact ⟨by rw [hjl, if_neg c22], Eqv.trans ⟨q, rfl⟩ ⟨_, rfl⟩⟩
    · try simp only [decide_eq_true_eq, decide_eq_false_iff_not, Bool.not_eq_true', Bool.not_eq_false', Int.not_lt, Int.not_le, Nat.not_lt, Nat.not_le, Bool.true_eq, Bool.false_eq, reduceCtorEq] at c22
      refine gc_skip ?_
      refine hK6 _ _ ?_
      clear hK6; try clear K6
      refine gc_region ?_
      first | refine gl_fit hT rfl rfl rfl rfl (by omega) ?_ | refine gl_op rfl rfl rfl (op_pure hT rfl) ?_
      refine gl_op rfl rfl rfl (op_pure hT rfl) ?_
      refine gl_nil ?_
      intro a ha
      rw [if_neg (by rw [c22]; simp)] at hjl
      exact ⟨i + 1, ha.sub ⟨rfl, rfl, rfl, rfl, rfl, trivial⟩, by omega, by omega, by rw [hjl, show f + ((i + 1 : Nat) : Int) = f + i + 1 by omega], Eqv.trans ⟨q, rfl⟩ ⟨_, rfl⟩⟩
  · try simp only [decide_eq_true_eq, decide_eq_false_iff_not, Bool.not_eq_true', Bool.not_eq_false', Int.not_lt, Int.not_le, Nat.not_lt, Nat.not_le, Bool.true_eq, Bool.false_eq, reduceCtorEq] at c14
    refine gc_exit ?_
    refine hK2 _ _ ?_
    clear hK2; try clear K2
    refine gc_seq fun K11 hK11 => ?_
    refine gc_region ?_
    refine gl_op rfl rfl rfl (op_pure hT rfl) ?_
    refine gl_op rfl rfl rfl (op_pure hT rfl) ?_
    refine gl_nil ?_
    refine hK11 _ _ ?_
    clear hK11; try clear K11
    refine gc_ret ?_
    try simp only [x_then_ret, x_block_ret]
    refine gk_ret2 rfl rfl rfl ?_
    have hie : ls.drop i = [] := List.drop_eq_nil_of_le (by omega)
    rw [hie] at hj
    have hj : listsGo n f ls = (0, 0) := hj
    exact ⟨by rw [hj]; rfl, ⟨q, rfl⟩⟩
@[reducible] def propC (C G M : Sv) (p : Px) : List Value := [svV C, svV G, .int .i64 p.T, svV M, .int .i64 p.K, .int .i64 p.D, .int .i64 p.S]
structure PrM (w : World) (ok : Nat → Prop) (C G M : Sv) (SG SM : List Sv) (p : Px) : Prop where
  rC : RdE w ok fV C.1 p.C
  nC : C.2.1 = p.C.length
  lC : p.C.length ≤ 17592186044416
  fC : ∀ u ∈ p.C, u < 18446744073709551616
  rG : LsM w ok G.1 SG p.G
  nG : G.2.1 = p.G.length
  lG : p.G.length ≤ 17592186044416
  rM : LsM w ok M.1 SM p.M
  nM : M.2.1 = p.M.length
  lM : p.M.length ≤ 17592186044416
  iT : i64 p.T
  iK : i64 p.K
  iD : i64 p.D
  iS : i64 p.S
set_option maxRecDepth 100000 in
theorem checkProp_calls (C G M : Sv) (SG SM : List Sv) (p : Px) (n out : Int) (w : World) {ok : Nat → Prop} (D : PrM w ok C G M SG SM p) :
    Calls Tryd.prog 23 ⟨[.agg ⟨propC C G M p⟩, .int .i64 n, .int .i64 out]⟩ w fun e w' => e = .returned (.tuple #[.int .i64 (propV p n out).1, .int .i64 (propV p n out).2]) ∧ Below w.heap.size w w' := by
  obtain ⟨G1, G2, G3⟩ := G
  obtain ⟨M1, M2, M3⟩ := M
  have hnC := D.nC
  have hnG := D.nG
  have hnM := D.nM
  have hlG := D.lG
  have hlM := D.lM
  simp only at hnG hnM
  subst hnG
  subst hnM
  obtain ⟨R, hR⟩ : ∃ R, R = propV p n out := ⟨_, rfl⟩
  rw [← hR]
  unfold propV at hR
  refine gc_enter (N := 119) Tryd.func23 rfl rfl rfl [(0, _), (1, _), (2, _)] rfl ?_
  have hS := St.start w
  refine gc_seq fun K1 hK1 => ?_
  refine gc_region ?_
  refine gl_box hS rfl rfl rfl rfl rfl fun g3 w3 hS => ?_
  refine gl_op rfl rfl rfl (op_pure hT rfl) ?_
  refine gl_op rfl rfl rfl (op_pure hT rfl) ?_
  refine gl_nil ?_
  refine hK1 _ _ ?_
  clear hK1; try clear K1
  refine gc_seq fun K2 hK2 => ?_
  refine gc_seq fun K3 hK3 => ?_
  refine gc_region ?_
  refine gl_op rfl rfl rfl (op_pure hT rfl) ?_
  refine gl_op rfl rfl rfl (op_pure hT rfl) ?_
  refine gl_op rfl rfl rfl (op_pure hT rfl) ?_
  refine gl_split (t := 15) rfl (fun c15 => ?_) (fun c15 => ?_)
  · try simp only [decide_eq_true_eq, decide_eq_false_iff_not, Bool.not_eq_true', Bool.not_eq_false', Int.not_lt, Int.not_le, Nat.not_lt, Nat.not_le, Bool.true_eq, Bool.false_eq, reduceCtorEq] at c15
    refine gl_pass rfl rfl rfl rfl rfl rfl ?_
    refine gl_pass rfl rfl rfl rfl rfl rfl ?_
    refine gl_op rfl rfl rfl (op_pure hT rfl) ?_
    refine gl_op rfl rfl rfl (op_pure hT rfl) ?_
    refine gl_pass rfl rfl rfl rfl rfl rfl ?_
    refine gl_pass rfl rfl rfl rfl rfl rfl ?_
    refine gl_op rfl rfl rfl (op_pure hT rfl) ?_
    refine gl_op rfl rfl rfl (op_pure hT rfl) ?_
    refine gl_pass rfl rfl rfl rfl rfl rfl ?_
    refine gl_pass rfl rfl rfl rfl rfl rfl ?_
    refine gl_op rfl rfl rfl (op_pure hT rfl) ?_
    refine gl_nil ?_
    refine hK3 _ _ ?_
    clear hK3; try clear K3
    refine gc_cond_t rfl ?_
    refine gc_seq fun K4 hK4 => ?_
    refine gc_region ?_
    refine gl_op rfl rfl rfl (op_pure hT rfl) ?_
    refine gl_op rfl rfl rfl (op_pure hT rfl) ?_
    refine gl_nil ?_
    refine hK4 _ _ ?_
    clear hK4; try clear K4
    refine gc_ret ?_
    try simp only [x_then_ret, x_block_ret]
    refine gk_ret2 rfl rfl rfl ?_
    refine ⟨?_, hS.below⟩
    rw [hR]
    first
      | (rw [if_pos (by omega)] <;> rfl)
      | (rw [if_neg (by omega), if_pos (by omega)] <;> rfl)
      | (rw [if_neg (by omega), if_neg (by omega), if_pos (by omega)] <;> rfl)
      | (rw [if_neg (by omega), if_neg (by omega), if_neg (by omega), if_pos (by omega)] <;> rfl)
      | (rw [if_neg (by omega), if_neg (by omega), if_neg (by omega), if_neg (by omega), if_pos (by omega)] <;> rfl)
      | (rw [if_neg (by omega), if_neg (by omega), if_neg (by omega), if_neg (by omega), if_neg (by omega), if_pos (by omega)] <;> rfl)
      | (rw [if_neg (by omega), if_neg (by omega), if_neg (by omega), if_neg (by omega), if_neg (by omega), if_neg (by omega), if_pos (by omega)] <;> rfl)
      | (rw [if_neg (by omega), if_neg (by omega), if_neg (by omega), if_neg (by omega), if_neg (by omega), if_neg (by omega), if_neg (by omega), if_pos (by omega)] <;> rfl)
      | (rw [if_neg (by omega), if_neg (by omega), if_neg (by omega), if_neg (by omega), if_neg (by omega), if_neg (by omega), if_neg (by omega), if_neg (by omega), if_pos (by omega)] <;> rfl)
      | (rw [if_neg (by omega), if_neg (by omega), if_neg (by omega), if_neg (by omega), if_neg (by omega), if_neg (by omega), if_neg (by omega), if_neg (by omega), if_neg (by omega)] <;> rfl)
      | trace_state
  · try simp only [decide_eq_true_eq, decide_eq_false_iff_not, Bool.not_eq_true', Bool.not_eq_false', Int.not_lt, Int.not_le, Nat.not_lt, Nat.not_le, Bool.true_eq, Bool.false_eq, reduceCtorEq] at c15
    refine gl_un rfl rfl rfl rfl ?_
    refine gl_op rfl rfl rfl (op_pure hT rfl) ?_
    refine gl_un rfl rfl rfl rfl ?_
    refine gl_op rfl rfl rfl (op_pure hT rfl) ?_
    refine gl_op rfl rfl rfl (op_pure hT rfl) ?_
    refine gl_op rfl rfl rfl (op_pure hT rfl) ?_
    refine gl_split (t := 19) rfl (fun c19 => ?_) (fun c19 => ?_)
    · try simp only [decide_eq_true_eq, decide_eq_false_iff_not, Bool.not_eq_true', Bool.not_eq_false', Int.not_lt, Int.not_le, Nat.not_lt, Nat.not_le, Bool.true_eq, Bool.false_eq, reduceCtorEq] at c19
      refine gl_pass rfl rfl rfl rfl rfl rfl ?_
      refine gl_pass rfl rfl rfl rfl rfl rfl ?_
      refine gl_op rfl rfl rfl (op_pure hT rfl) ?_
      refine gl_op rfl rfl rfl (op_pure hT rfl) ?_
      refine gl_pass rfl rfl rfl rfl rfl rfl ?_
      refine gl_pass rfl rfl rfl rfl rfl rfl ?_
      refine gl_op rfl rfl rfl (op_pure hT rfl) ?_
      refine gl_nil ?_
      refine hK3 _ _ ?_
      clear hK3; try clear K3
      refine gc_cond_t rfl ?_
      refine gc_seq fun K5 hK5 => ?_
      refine gc_region ?_
      refine gl_op rfl rfl rfl (op_pure hT rfl) ?_
      refine gl_op rfl rfl rfl (op_pure hT rfl) ?_
      refine gl_nil ?_
      refine hK5 _ _ ?_
      clear hK5; try clear K5
      refine gc_ret ?_
      try simp only [x_then_ret, x_block_ret]
      refine gk_ret2 rfl rfl rfl ?_
      refine ⟨?_, hS.below⟩
      rw [hR]
      first
        | (rw [if_pos (by omega)] <;> rfl)
        | (rw [if_neg (by omega), if_pos (by omega)] <;> rfl)
        | (rw [if_neg (by omega), if_neg (by omega), if_pos (by omega)] <;> rfl)
        | (rw [if_neg (by omega), if_neg (by omega), if_neg (by omega), if_pos (by omega)] <;> rfl)
        | (rw [if_neg (by omega), if_neg (by omega), if_neg (by omega), if_neg (by omega), if_pos (by omega)] <;> rfl)
        | (rw [if_neg (by omega), if_neg (by omega), if_neg (by omega), if_neg (by omega), if_neg (by omega), if_pos (by omega)] <;> rfl)
        | (rw [if_neg (by omega), if_neg (by omega), if_neg (by omega), if_neg (by omega), if_neg (by omega), if_neg (by omega), if_pos (by omega)] <;> rfl)
        | (rw [if_neg (by omega), if_neg (by omega), if_neg (by omega), if_neg (by omega), if_neg (by omega), if_neg (by omega), if_neg (by omega), if_pos (by omega)] <;> rfl)
        | (rw [if_neg (by omega), if_neg (by omega), if_neg (by omega), if_neg (by omega), if_neg (by omega), if_neg (by omega), if_neg (by omega), if_neg (by omega), if_pos (by omega)] <;> rfl)
        | (rw [if_neg (by omega), if_neg (by omega), if_neg (by omega), if_neg (by omega), if_neg (by omega), if_neg (by omega), if_neg (by omega), if_neg (by omega), if_neg (by omega)] <;> rfl)
        | trace_state
    · try simp only [decide_eq_true_eq, decide_eq_false_iff_not, Bool.not_eq_true', Bool.not_eq_false', Int.not_lt, Int.not_le, Nat.not_lt, Nat.not_le, Bool.true_eq, Bool.false_eq, reduceCtorEq] at c19
      refine gl_un rfl rfl rfl rfl ?_
      refine gl_op rfl rfl rfl (op_pure hT rfl) ?_
      refine gl_un rfl rfl rfl rfl ?_
      refine gl_op rfl rfl rfl (op_pure hT rfl) ?_
      refine gl_op rfl rfl rfl (op_pure hT rfl) ?_
      refine gl_op rfl rfl rfl (op_pure hT rfl) ?_
      refine gl_split (t := 23) rfl (fun c23 => ?_) (fun c23 => ?_)
      · try simp only [decide_eq_true_eq, decide_eq_false_iff_not, Bool.not_eq_true', Bool.not_eq_false', Int.not_lt, Int.not_le, Nat.not_lt, Nat.not_le, Bool.true_eq, Bool.false_eq, reduceCtorEq] at c23
        refine gl_pass rfl rfl rfl rfl rfl rfl ?_
        refine gl_pass rfl rfl rfl rfl rfl rfl ?_
        refine gl_op rfl rfl rfl (op_pure hT rfl) ?_
        refine gl_nil ?_
        refine hK3 _ _ ?_
        clear hK3; try clear K3
        refine gc_cond_t rfl ?_
        refine gc_seq fun K6 hK6 => ?_
        refine gc_region ?_
        refine gl_op rfl rfl rfl (op_pure hT rfl) ?_
        refine gl_op rfl rfl rfl (op_pure hT rfl) ?_
        refine gl_nil ?_
        refine hK6 _ _ ?_
        clear hK6; try clear K6
        refine gc_ret ?_
        try simp only [x_then_ret, x_block_ret]
        refine gk_ret2 rfl rfl rfl ?_
        refine ⟨?_, hS.below⟩
        rw [hR]
        first
          | (rw [if_pos (by omega)] <;> rfl)
          | (rw [if_neg (by omega), if_pos (by omega)] <;> rfl)
          | (rw [if_neg (by omega), if_neg (by omega), if_pos (by omega)] <;> rfl)
          | (rw [if_neg (by omega), if_neg (by omega), if_neg (by omega), if_pos (by omega)] <;> rfl)
          | (rw [if_neg (by omega), if_neg (by omega), if_neg (by omega), if_neg (by omega), if_pos (by omega)] <;> rfl)
          | (rw [if_neg (by omega), if_neg (by omega), if_neg (by omega), if_neg (by omega), if_neg (by omega), if_pos (by omega)] <;> rfl)
          | (rw [if_neg (by omega), if_neg (by omega), if_neg (by omega), if_neg (by omega), if_neg (by omega), if_neg (by omega), if_pos (by omega)] <;> rfl)
          | (rw [if_neg (by omega), if_neg (by omega), if_neg (by omega), if_neg (by omega), if_neg (by omega), if_neg (by omega), if_neg (by omega), if_pos (by omega)] <;> rfl)
          | (rw [if_neg (by omega), if_neg (by omega), if_neg (by omega), if_neg (by omega), if_neg (by omega), if_neg (by omega), if_neg (by omega), if_neg (by omega), if_pos (by omega)] <;> rfl)
          | (rw [if_neg (by omega), if_neg (by omega), if_neg (by omega), if_neg (by omega), if_neg (by omega), if_neg (by omega), if_neg (by omega), if_neg (by omega), if_neg (by omega)] <;> rfl)
          | trace_state
      · try simp only [decide_eq_true_eq, decide_eq_false_iff_not, Bool.not_eq_true', Bool.not_eq_false', Int.not_lt, Int.not_le, Nat.not_lt, Nat.not_le, Bool.true_eq, Bool.false_eq, reduceCtorEq] at c23
        refine gl_un rfl rfl rfl rfl ?_
        refine gl_op rfl rfl rfl (op_pure hT rfl) ?_
        refine gl_un rfl rfl rfl rfl ?_
        refine gl_op rfl rfl rfl (op_pure hT rfl) ?_
        refine gl_op rfl rfl rfl (op_pure hT rfl) ?_
        refine gl_nil ?_
        refine hK3 _ _ ?_
        clear hK3; try clear K3
        refine gc_cond rfl rfl (fun c26 => ?_) (fun c26 => ?_)
        · try simp only [decide_eq_true_eq, decide_eq_false_iff_not, Bool.not_eq_true', Bool.not_eq_false', Int.not_lt, Int.not_le, Nat.not_lt, Nat.not_le, Bool.true_eq, Bool.false_eq, reduceCtorEq] at c26
          refine gc_seq fun K7 hK7 => ?_
          refine gc_region ?_
          refine gl_op rfl rfl rfl (op_pure hT rfl) ?_
          refine gl_op rfl rfl rfl (op_pure hT rfl) ?_
          refine gl_nil ?_
          refine hK7 _ _ ?_
          clear hK7; try clear K7
          refine gc_ret ?_
          try simp only [x_then_ret, x_block_ret]
          refine gk_ret2 rfl rfl rfl ?_
          refine ⟨?_, hS.below⟩
          rw [hR]
          first
            | (rw [if_pos (by omega)] <;> rfl)
            | (rw [if_neg (by omega), if_pos (by omega)] <;> rfl)
            | (rw [if_neg (by omega), if_neg (by omega), if_pos (by omega)] <;> rfl)
            | (rw [if_neg (by omega), if_neg (by omega), if_neg (by omega), if_pos (by omega)] <;> rfl)
            | (rw [if_neg (by omega), if_neg (by omega), if_neg (by omega), if_neg (by omega), if_pos (by omega)] <;> rfl)
            | (rw [if_neg (by omega), if_neg (by omega), if_neg (by omega), if_neg (by omega), if_neg (by omega), if_pos (by omega)] <;> rfl)
            | (rw [if_neg (by omega), if_neg (by omega), if_neg (by omega), if_neg (by omega), if_neg (by omega), if_neg (by omega), if_pos (by omega)] <;> rfl)
            | (rw [if_neg (by omega), if_neg (by omega), if_neg (by omega), if_neg (by omega), if_neg (by omega), if_neg (by omega), if_neg (by omega), if_pos (by omega)] <;> rfl)
            | (rw [if_neg (by omega), if_neg (by omega), if_neg (by omega), if_neg (by omega), if_neg (by omega), if_neg (by omega), if_neg (by omega), if_neg (by omega), if_pos (by omega)] <;> rfl)
            | (rw [if_neg (by omega), if_neg (by omega), if_neg (by omega), if_neg (by omega), if_neg (by omega), if_neg (by omega), if_neg (by omega), if_neg (by omega), if_neg (by omega)] <;> rfl)
            | trace_state
        · try simp only [decide_eq_true_eq, decide_eq_false_iff_not, Bool.not_eq_true', Bool.not_eq_false', Int.not_lt, Int.not_le, Nat.not_lt, Nat.not_le, Bool.true_eq, Bool.false_eq, reduceCtorEq] at c26
          refine gc_skip ?_
          refine hK2 _ _ ?_
          clear hK2; try clear K2
          refine gc_seq fun K8 hK8 => ?_
          refine gc_seq fun K9 hK9 => ?_
          refine gc_region ?_
          refine gl_op rfl rfl rfl (op_fieldB 0 rfl Tryd.underlying25 rfl el22 rfl rfl) ?_
          refine gl_op rfl rfl rfl (op_loadB 0 hT hS rfl rfl rfl rfl rfl rfl) ?_
          refine gl_op rfl rfl rfl (op_pure hT rfl) ?_
          refine gl_callf rfl rfl rfl rfl Tryd.func42 rfl rfl rfl (list_calls _ _ _ p.C n _ (D.rC.old hS) D.nC D.lC D.fC) ?_
          rintro _ _ ⟨rfl, n30, rfl⟩
          refine ⟨_, rfl, ?_⟩
          have hS := hS.dr n30
          refine gl_op rfl rfl rfl (op_pure hT rfl) ?_
          refine gl_nil ?_
          refine hK9 _ _ ?_
          clear hK9; try clear K9
          refine gc_seq fun K10 hK10 => ?_
          refine gc_region ?_
          refine gl_op rfl rfl rfl (op_pure hT rfl) ?_
          refine gl_op rfl rfl rfl (op_pure hT rfl) ?_
          refine gl_nil ?_
          refine hK10 _ _ ?_
          clear hK10; try clear K10
          refine gc_cond rfl rfl (fun c32 => ?_) (fun c32 => ?_)
          · try simp only [decide_eq_true_eq, decide_eq_false_iff_not, Bool.not_eq_true', Bool.not_eq_false', Int.not_lt, Int.not_le, Nat.not_lt, Nat.not_le, Bool.true_eq, Bool.false_eq, reduceCtorEq] at c32
            refine gc_seq fun K11 hK11 => ?_
            refine gc_region ?_
            refine gl_op rfl rfl rfl (op_pure hT rfl) ?_
            refine gl_op rfl rfl rfl (op_pure hT rfl) ?_
            refine gl_op rfl rfl rfl (op_pure hT rfl) ?_
            refine gl_nil ?_
            refine hK11 _ _ ?_
            clear hK11; try clear K11
            refine gc_ret ?_
            try simp only [x_then_ret, x_block_ret]
            refine gk_ret2 rfl rfl rfl ?_
            refine ⟨?_, hS.below⟩
            rw [hR]
            first
              | (rw [if_pos (by omega)] <;> rfl)
              | (rw [if_neg (by omega), if_pos (by omega)] <;> rfl)
              | (rw [if_neg (by omega), if_neg (by omega), if_pos (by omega)] <;> rfl)
              | (rw [if_neg (by omega), if_neg (by omega), if_neg (by omega), if_pos (by omega)] <;> rfl)
              | (rw [if_neg (by omega), if_neg (by omega), if_neg (by omega), if_neg (by omega), if_pos (by omega)] <;> rfl)
              | (rw [if_neg (by omega), if_neg (by omega), if_neg (by omega), if_neg (by omega), if_neg (by omega), if_pos (by omega)] <;> rfl)
              | (rw [if_neg (by omega), if_neg (by omega), if_neg (by omega), if_neg (by omega), if_neg (by omega), if_neg (by omega), if_pos (by omega)] <;> rfl)
              | (rw [if_neg (by omega), if_neg (by omega), if_neg (by omega), if_neg (by omega), if_neg (by omega), if_neg (by omega), if_neg (by omega), if_pos (by omega)] <;> rfl)
              | (rw [if_neg (by omega), if_neg (by omega), if_neg (by omega), if_neg (by omega), if_neg (by omega), if_neg (by omega), if_neg (by omega), if_neg (by omega), if_pos (by omega)] <;> rfl)
              | (rw [if_neg (by omega), if_neg (by omega), if_neg (by omega), if_neg (by omega), if_neg (by omega), if_neg (by omega), if_neg (by omega), if_neg (by omega), if_neg (by omega)] <;> rfl)
              | trace_state
          · try simp only [decide_eq_true_eq, decide_eq_false_iff_not, Bool.not_eq_true', Bool.not_eq_false', Int.not_lt, Int.not_le, Nat.not_lt, Nat.not_le, Bool.true_eq, Bool.false_eq, reduceCtorEq] at c32
            refine gc_skip ?_
            refine hK8 _ _ ?_
            clear hK8; try clear K8
            refine gc_seq fun K12 hK12 => ?_
            refine gc_seq fun K13 hK13 => ?_
            refine gc_region ?_
            refine gl_op rfl rfl rfl (op_fieldB 1 rfl Tryd.underlying25 rfl el23 rfl rfl) ?_
            refine gl_op rfl rfl rfl (op_loadB 0 hT hS rfl rfl rfl rfl rfl rfl) ?_
            refine gl_op rfl rfl rfl (op_pure hT rfl) ?_
            refine gl_op rfl rfl rfl (op_pure hT rfl) ?_
            refine gl_nil ?_
            refine hK13 _ _ ?_
            clear hK13; try clear K13
            refine gc_cond rfl rfl (fun c37 => ?_) (fun c37 => ?_)
            · try simp only [decide_eq_true_eq, decide_eq_false_iff_not, Bool.not_eq_true', Bool.not_eq_false', Int.not_lt, Int.not_le, Nat.not_lt, Nat.not_le, Bool.true_eq, Bool.false_eq, reduceCtorEq] at c37
              refine gc_seq fun K14 hK14 => ?_
              refine gc_region ?_
              refine gl_op rfl rfl rfl (op_pure hT rfl) ?_
              refine gl_op rfl rfl rfl (op_pure hT rfl) ?_
              refine gl_nil ?_
              refine hK14 _ _ ?_
              clear hK14; try clear K14
              refine gc_ret ?_
              try simp only [x_then_ret, x_block_ret]
              refine gk_ret2 rfl rfl rfl ?_
              refine ⟨?_, hS.below⟩
              rw [hR]
              first
                | (rw [if_pos (by omega)] <;> rfl)
                | (rw [if_neg (by omega), if_pos (by omega)] <;> rfl)
                | (rw [if_neg (by omega), if_neg (by omega), if_pos (by omega)] <;> rfl)
                | (rw [if_neg (by omega), if_neg (by omega), if_neg (by omega), if_pos (by omega)] <;> rfl)
                | (rw [if_neg (by omega), if_neg (by omega), if_neg (by omega), if_neg (by omega), if_pos (by omega)] <;> rfl)
                | (rw [if_neg (by omega), if_neg (by omega), if_neg (by omega), if_neg (by omega), if_neg (by omega), if_pos (by omega)] <;> rfl)
                | (rw [if_neg (by omega), if_neg (by omega), if_neg (by omega), if_neg (by omega), if_neg (by omega), if_neg (by omega), if_pos (by omega)] <;> rfl)
                | (rw [if_neg (by omega), if_neg (by omega), if_neg (by omega), if_neg (by omega), if_neg (by omega), if_neg (by omega), if_neg (by omega), if_pos (by omega)] <;> rfl)
                | (rw [if_neg (by omega), if_neg (by omega), if_neg (by omega), if_neg (by omega), if_neg (by omega), if_neg (by omega), if_neg (by omega), if_neg (by omega), if_pos (by omega)] <;> rfl)
                | (rw [if_neg (by omega), if_neg (by omega), if_neg (by omega), if_neg (by omega), if_neg (by omega), if_neg (by omega), if_neg (by omega), if_neg (by omega), if_neg (by omega)] <;> rfl)
                | trace_state
            · try simp only [decide_eq_true_eq, decide_eq_false_iff_not, Bool.not_eq_true', Bool.not_eq_false', Int.not_lt, Int.not_le, Nat.not_lt, Nat.not_le, Bool.true_eq, Bool.false_eq, reduceCtorEq] at c37
              refine gc_skip ?_
              refine hK12 _ _ ?_
              clear hK12; try clear K12
              refine gc_seq fun K15 hK15 => ?_
              refine gc_seq fun K16 hK16 => ?_
              refine gc_region ?_
              refine gl_op rfl rfl rfl (op_fieldB 1 rfl Tryd.underlying25 rfl el23 rfl rfl) ?_
              refine gl_op rfl rfl rfl (op_loadB 0 hT hS rfl rfl rfl rfl rfl rfl) ?_
              refine gl_op rfl rfl rfl (op_pure hT rfl) ?_
              refine gl_callf rfl rfl rfl rfl Tryd.func43 rfl rfl rfl (lists_calls _ _ _ SG p.G n 1 _ (D.rG.old hS) rfl D.lG ⟨by decide, by decide⟩) ?_
              rintro _ _ ⟨rfl, n42, rfl⟩
              refine ⟨_, rfl, ?_⟩
              have hS := hS.dr n42
              refine gl_op rfl rfl rfl (op_pure hT rfl) ?_
              refine gl_op rfl rfl rfl (op_pure hT rfl) ?_
              refine gl_op rfl rfl rfl (op_pure hT rfl) ?_
              refine gl_op rfl rfl rfl (op_pure hT rfl) ?_
              refine gl_op rfl rfl rfl (op_pure hT rfl) ?_
              refine gl_nil ?_
              refine hK16 _ _ ?_
              clear hK16; try clear K16
              refine gc_seq fun K17 hK17 => ?_
              refine gc_region ?_
              refine gl_op rfl rfl rfl (op_pure hT rfl) ?_
              refine gl_op rfl rfl rfl (op_pure hT rfl) ?_
              refine gl_nil ?_
              refine hK17 _ _ ?_
              clear hK17; try clear K17
              refine gc_cond rfl rfl (fun c46 => ?_) (fun c46 => ?_)
              · try simp only [decide_eq_true_eq, decide_eq_false_iff_not, Bool.not_eq_true', Bool.not_eq_false', Int.not_lt, Int.not_le, Nat.not_lt, Nat.not_le, Bool.true_eq, Bool.false_eq, reduceCtorEq] at c46
                rw [if_neg c46]
                refine gc_seq fun K18 hK18 => ?_
                refine gc_region ?_
                refine gl_op rfl rfl rfl (op_pure hT rfl) ?_
                refine gl_op rfl rfl rfl (op_pure hT rfl) ?_
                refine gl_op rfl rfl rfl (op_pure hT rfl) ?_
                refine gl_op rfl rfl rfl (op_pure hT rfl) ?_
                refine gl_nil ?_
                refine hK18 _ _ ?_
                clear hK18; try clear K18
                refine gc_ret ?_
                try simp only [x_then_ret, x_block_ret]
                refine gk_ret2 rfl rfl rfl ?_
                refine ⟨?_, hS.below⟩
                rw [hR]
                first
                  | (rw [if_pos (by omega)] <;> rfl)
                  | (rw [if_neg (by omega), if_pos (by omega)] <;> rfl)
                  | (rw [if_neg (by omega), if_neg (by omega), if_pos (by omega)] <;> rfl)
                  | (rw [if_neg (by omega), if_neg (by omega), if_neg (by omega), if_pos (by omega)] <;> rfl)
                  | (rw [if_neg (by omega), if_neg (by omega), if_neg (by omega), if_neg (by omega), if_pos (by omega)] <;> rfl)
                  | (rw [if_neg (by omega), if_neg (by omega), if_neg (by omega), if_neg (by omega), if_neg (by omega), if_pos (by omega)] <;> rfl)
                  | (rw [if_neg (by omega), if_neg (by omega), if_neg (by omega), if_neg (by omega), if_neg (by omega), if_neg (by omega), if_pos (by omega)] <;> rfl)
                  | (rw [if_neg (by omega), if_neg (by omega), if_neg (by omega), if_neg (by omega), if_neg (by omega), if_neg (by omega), if_neg (by omega), if_pos (by omega)] <;> rfl)
                  | (rw [if_neg (by omega), if_neg (by omega), if_neg (by omega), if_neg (by omega), if_neg (by omega), if_neg (by omega), if_neg (by omega), if_neg (by omega), if_pos (by omega)] <;> rfl)
                  | (rw [if_neg (by omega), if_neg (by omega), if_neg (by omega), if_neg (by omega), if_neg (by omega), if_neg (by omega), if_neg (by omega), if_neg (by omega), if_neg (by omega)] <;> rfl)
                  | trace_state
              · try simp only [decide_eq_true_eq, decide_eq_false_iff_not, Bool.not_eq_true', Bool.not_eq_false', Int.not_lt, Int.not_le, Nat.not_lt, Nat.not_le, Bool.true_eq, Bool.false_eq, reduceCtorEq] at c46
                refine gc_skip ?_
                refine hK15 _ _ ?_
                clear hK15; try clear K15
                refine gc_seq fun K19 hK19 => ?_
                refine gc_seq fun K20 hK20 => ?_
                refine gc_region ?_
                refine gl_op rfl rfl rfl (op_fieldB 2 rfl Tryd.underlying25 rfl el3 rfl rfl) ?_
                refine gl_op rfl rfl rfl (op_loadB 0 hT hS rfl rfl rfl rfl rfl rfl) ?_
                refine gl_op rfl rfl rfl (op_pure hT rfl) ?_
                refine gl_op rfl rfl rfl (op_pure hT rfl) ?_
                refine gl_split (t := 52) rfl (fun c52 => ?_) (fun c52 => ?_)
                · try simp only [decide_eq_true_eq, decide_eq_false_iff_not, Bool.not_eq_true', Bool.not_eq_false', Int.not_lt, Int.not_le, Nat.not_lt, Nat.not_le, Bool.true_eq, Bool.false_eq, reduceCtorEq] at c52
                  refine gl_pass rfl rfl rfl rfl rfl rfl ?_
                  refine gl_pass rfl rfl rfl rfl rfl rfl ?_
                  refine gl_pass rfl rfl rfl rfl rfl rfl ?_
                  refine gl_pass rfl rfl rfl rfl rfl rfl ?_
                  refine gl_op rfl rfl rfl (op_pure hT rfl) ?_
                  refine gl_nil ?_
                  refine hK20 _ _ ?_
                  clear hK20; try clear K20
                  refine gc_cond_t rfl ?_
                  refine gc_seq fun K21 hK21 => ?_
                  refine gc_region ?_
                  refine gl_op rfl rfl rfl (op_pure hT rfl) ?_
                  refine gl_op rfl rfl rfl (op_pure hT rfl) ?_
                  refine gl_nil ?_
                  refine hK21 _ _ ?_
                  clear hK21; try clear K21
                  refine gc_ret ?_
                  try simp only [x_then_ret, x_block_ret]
                  refine gk_ret2 rfl rfl rfl ?_
                  refine ⟨?_, hS.below⟩
                  rw [hR]
                  first
                    | (rw [if_pos (by omega)] <;> rfl)
                    | (rw [if_neg (by omega), if_pos (by omega)] <;> rfl)
                    | (rw [if_neg (by omega), if_neg (by omega), if_pos (by omega)] <;> rfl)
                    | (rw [if_neg (by omega), if_neg (by omega), if_neg (by omega), if_pos (by omega)] <;> rfl)
                    | (rw [if_neg (by omega), if_neg (by omega), if_neg (by omega), if_neg (by omega), if_pos (by omega)] <;> rfl)
                    | (rw [if_neg (by omega), if_neg (by omega), if_neg (by omega), if_neg (by omega), if_neg (by omega), if_pos (by omega)] <;> rfl)
                    | (rw [if_neg (by omega), if_neg (by omega), if_neg (by omega), if_neg (by omega), if_neg (by omega), if_neg (by omega), if_pos (by omega)] <;> rfl)
                    | (rw [if_neg (by omega), if_neg (by omega), if_neg (by omega), if_neg (by omega), if_neg (by omega), if_neg (by omega), if_neg (by omega), if_pos (by omega)] <;> rfl)
                    | (rw [if_neg (by omega), if_neg (by omega), if_neg (by omega), if_neg (by omega), if_neg (by omega), if_neg (by omega), if_neg (by omega), if_neg (by omega), if_pos (by omega)] <;> rfl)
                    | (rw [if_neg (by omega), if_neg (by omega), if_neg (by omega), if_neg (by omega), if_neg (by omega), if_neg (by omega), if_neg (by omega), if_neg (by omega), if_neg (by omega)] <;> rfl)
                    | trace_state
                · try simp only [decide_eq_true_eq, decide_eq_false_iff_not, Bool.not_eq_true', Bool.not_eq_false', Int.not_lt, Int.not_le, Nat.not_lt, Nat.not_le, Bool.true_eq, Bool.false_eq, reduceCtorEq] at c52
                  refine gl_un rfl rfl rfl rfl ?_
                  refine gl_op rfl rfl rfl (op_fieldB 2 rfl Tryd.underlying25 rfl el3 rfl rfl) ?_
                  refine gl_un rfl rfl rfl rfl ?_
                  refine gl_op rfl rfl rfl (op_loadB 0 hT hS rfl rfl rfl rfl rfl rfl) ?_
                  refine gl_un rfl rfl rfl rfl ?_
                  refine gl_op rfl rfl rfl (op_pure hT rfl) ?_
                  refine gl_un rfl rfl rfl rfl ?_
                  refine gl_op rfl rfl rfl (op_pure hT rfl) ?_
                  refine gl_op rfl rfl rfl (op_pure hT rfl) ?_
                  refine gl_nil ?_
                  refine hK20 _ _ ?_
                  clear hK20; try clear K20
                  refine gc_cond rfl rfl (fun c57 => ?_) (fun c57 => ?_)
                  · try simp only [decide_eq_true_eq, decide_eq_false_iff_not, Bool.not_eq_true', Bool.not_eq_false', Int.not_lt, Int.not_le, Nat.not_lt, Nat.not_le, Bool.true_eq, Bool.false_eq, reduceCtorEq] at c57
                    refine gc_seq fun K22 hK22 => ?_
                    refine gc_region ?_
                    refine gl_op rfl rfl rfl (op_pure hT rfl) ?_
                    refine gl_op rfl rfl rfl (op_pure hT rfl) ?_
                    refine gl_nil ?_
                    refine hK22 _ _ ?_
                    clear hK22; try clear K22
                    refine gc_ret ?_
                    try simp only [x_then_ret, x_block_ret]
                    refine gk_ret2 rfl rfl rfl ?_
                    refine ⟨?_, hS.below⟩
                    rw [hR]
                    first
                      | (rw [if_pos (by omega)] <;> rfl)
                      | (rw [if_neg (by omega), if_pos (by omega)] <;> rfl)
                      | (rw [if_neg (by omega), if_neg (by omega), if_pos (by omega)] <;> rfl)
                      | (rw [if_neg (by omega), if_neg (by omega), if_neg (by omega), if_pos (by omega)] <;> rfl)
                      | (rw [if_neg (by omega), if_neg (by omega), if_neg (by omega), if_neg (by omega), if_pos (by omega)] <;> rfl)
                      | (rw [if_neg (by omega), if_neg (by omega), if_neg (by omega), if_neg (by omega), if_neg (by omega), if_pos (by omega)] <;> rfl)
                      | (rw [if_neg (by omega), if_neg (by omega), if_neg (by omega), if_neg (by omega), if_neg (by omega), if_neg (by omega), if_pos (by omega)] <;> rfl)
                      | (rw [if_neg (by omega), if_neg (by omega), if_neg (by omega), if_neg (by omega), if_neg (by omega), if_neg (by omega), if_neg (by omega), if_pos (by omega)] <;> rfl)
                      | (rw [if_neg (by omega), if_neg (by omega), if_neg (by omega), if_neg (by omega), if_neg (by omega), if_neg (by omega), if_neg (by omega), if_neg (by omega), if_pos (by omega)] <;> rfl)
                      | (rw [if_neg (by omega), if_neg (by omega), if_neg (by omega), if_neg (by omega), if_neg (by omega), if_neg (by omega), if_neg (by omega), if_neg (by omega), if_neg (by omega)] <;> rfl)
                      | trace_state
                  · try simp only [decide_eq_true_eq, decide_eq_false_iff_not, Bool.not_eq_true', Bool.not_eq_false', Int.not_lt, Int.not_le, Nat.not_lt, Nat.not_le, Bool.true_eq, Bool.false_eq, reduceCtorEq] at c57
                    refine gc_skip ?_
                    refine hK19 _ _ ?_
                    clear hK19; try clear K19
                    refine gc_seq fun K23 hK23 => ?_
                    refine gc_seq fun K24 hK24 => ?_
                    refine gc_region ?_
                    refine gl_op rfl rfl rfl (op_fieldB 3 rfl Tryd.underlying25 rfl el23 rfl rfl) ?_
                    refine gl_op rfl rfl rfl (op_loadB 0 hT hS rfl rfl rfl rfl rfl rfl) ?_
                    refine gl_op rfl rfl rfl (op_pure hT rfl) ?_
                    refine gl_op rfl rfl rfl (op_pure hT rfl) ?_
                    refine gl_nil ?_
                    refine hK24 _ _ ?_
                    clear hK24; try clear K24
                    refine gc_cond rfl rfl (fun c61 => ?_) (fun c61 => ?_)
                    · try simp only [decide_eq_true_eq, decide_eq_false_iff_not, Bool.not_eq_true', Bool.not_eq_false', Int.not_lt, Int.not_le, Nat.not_lt, Nat.not_le, Bool.true_eq, Bool.false_eq, reduceCtorEq] at c61
                      refine gc_seq fun K25 hK25 => ?_
                      refine gc_region ?_
                      refine gl_op rfl rfl rfl (op_pure hT rfl) ?_
                      refine gl_op rfl rfl rfl (op_pure hT rfl) ?_
                      refine gl_nil ?_
                      refine hK25 _ _ ?_
                      clear hK25; try clear K25
                      refine gc_ret ?_
                      try simp only [x_then_ret, x_block_ret]
                      refine gk_ret2 rfl rfl rfl ?_
                      refine ⟨?_, hS.below⟩
                      rw [hR]
                      first
                        | (rw [if_pos (by omega)] <;> rfl)
                        | (rw [if_neg (by omega), if_pos (by omega)] <;> rfl)
                        | (rw [if_neg (by omega), if_neg (by omega), if_pos (by omega)] <;> rfl)
                        | (rw [if_neg (by omega), if_neg (by omega), if_neg (by omega), if_pos (by omega)] <;> rfl)
                        | (rw [if_neg (by omega), if_neg (by omega), if_neg (by omega), if_neg (by omega), if_pos (by omega)] <;> rfl)
                        | (rw [if_neg (by omega), if_neg (by omega), if_neg (by omega), if_neg (by omega), if_neg (by omega), if_pos (by omega)] <;> rfl)
                        | (rw [if_neg (by omega), if_neg (by omega), if_neg (by omega), if_neg (by omega), if_neg (by omega), if_neg (by omega), if_pos (by omega)] <;> rfl)
                        | (rw [if_neg (by omega), if_neg (by omega), if_neg (by omega), if_neg (by omega), if_neg (by omega), if_neg (by omega), if_neg (by omega), if_pos (by omega)] <;> rfl)
                        | (rw [if_neg (by omega), if_neg (by omega), if_neg (by omega), if_neg (by omega), if_neg (by omega), if_neg (by omega), if_neg (by omega), if_neg (by omega), if_pos (by omega)] <;> rfl)
                        | (rw [if_neg (by omega), if_neg (by omega), if_neg (by omega), if_neg (by omega), if_neg (by omega), if_neg (by omega), if_neg (by omega), if_neg (by omega), if_neg (by omega)] <;> rfl)
                        | trace_state
                    · try simp only [decide_eq_true_eq, decide_eq_false_iff_not, Bool.not_eq_true', Bool.not_eq_false', Int.not_lt, Int.not_le, Nat.not_lt, Nat.not_le, Bool.true_eq, Bool.false_eq, reduceCtorEq] at c61
                      refine gc_skip ?_
                      refine hK23 _ _ ?_
                      clear hK23; try clear K23
                      refine gc_seq fun K26 hK26 => ?_
                      refine gc_seq fun K27 hK27 => ?_
                      refine gc_region ?_
                      refine gl_op rfl rfl rfl (op_fieldB 3 rfl Tryd.underlying25 rfl el23 rfl rfl) ?_
                      refine gl_op rfl rfl rfl (op_loadB 0 hT hS rfl rfl rfl rfl rfl rfl) ?_
                      refine gl_op rfl rfl rfl (op_pure hT rfl) ?_
                      first | refine gl_fit hT rfl rfl rfl rfl (by omega) ?_ | refine gl_op rfl rfl rfl (op_pure hT rfl) ?_
                      refine gl_op rfl rfl rfl (op_fieldB 1 rfl Tryd.underlying25 rfl el23 rfl rfl) ?_
                      refine gl_op rfl rfl rfl (op_loadB 0 hT hS rfl rfl rfl rfl rfl rfl) ?_
                      refine gl_op rfl rfl rfl (op_pure hT rfl) ?_
                      refine gl_fit hT rfl rfl rfl rfl (by dsimp only; omega) ?_
                      refine gl_callf rfl rfl rfl rfl Tryd.func43 rfl rfl rfl (lists_calls _ _ _ SM p.M (out + 1) _ _ (D.rM.old hS) rfl D.lM ⟨by omega, by dsimp only; omega⟩) ?_
                      rintro _ _ ⟨rfl, n71, rfl⟩
                      refine ⟨_, rfl, ?_⟩
                      have hS := hS.dr n71
                      refine gl_op rfl rfl rfl (op_pure hT rfl) ?_
                      refine gl_op rfl rfl rfl (op_pure hT rfl) ?_
                      refine gl_op rfl rfl rfl (op_pure hT rfl) ?_
                      refine gl_op rfl rfl rfl (op_pure hT rfl) ?_
                      refine gl_op rfl rfl rfl (op_pure hT rfl) ?_
                      refine gl_nil ?_
                      refine hK27 _ _ ?_
                      clear hK27; try clear K27
                      refine gc_seq fun K28 hK28 => ?_
                      refine gc_region ?_
                      refine gl_op rfl rfl rfl (op_pure hT rfl) ?_
                      refine gl_op rfl rfl rfl (op_pure hT rfl) ?_
                      refine gl_nil ?_
                      refine hK28 _ _ ?_
                      clear hK28; try clear K28
                      refine gc_cond rfl rfl (fun c75 => ?_) (fun c75 => ?_)
                      · try simp only [decide_eq_true_eq, decide_eq_false_iff_not, Bool.not_eq_true', Bool.not_eq_false', Int.not_lt, Int.not_le, Nat.not_lt, Nat.not_le, Bool.true_eq, Bool.false_eq, reduceCtorEq] at c75
                        rw [if_neg c75]
                        refine gc_seq fun K29 hK29 => ?_
                        refine gc_region ?_
                        refine gl_op rfl rfl rfl (op_pure hT rfl) ?_
                        refine gl_op rfl rfl rfl (op_pure hT rfl) ?_
                        refine gl_op rfl rfl rfl (op_pure hT rfl) ?_
                        refine gl_op rfl rfl rfl (op_pure hT rfl) ?_
                        refine gl_nil ?_
                        refine hK29 _ _ ?_
                        clear hK29; try clear K29
                        refine gc_ret ?_
                        try simp only [x_then_ret, x_block_ret]
                        refine gk_ret2 rfl rfl rfl ?_
                        refine ⟨?_, hS.below⟩
                        rw [hR]
                        first
                          | (rw [if_pos (by omega)] <;> rfl)
                          | (rw [if_neg (by omega), if_pos (by omega)] <;> rfl)
                          | (rw [if_neg (by omega), if_neg (by omega), if_pos (by omega)] <;> rfl)
                          | (rw [if_neg (by omega), if_neg (by omega), if_neg (by omega), if_pos (by omega)] <;> rfl)
                          | (rw [if_neg (by omega), if_neg (by omega), if_neg (by omega), if_neg (by omega), if_pos (by omega)] <;> rfl)
                          | (rw [if_neg (by omega), if_neg (by omega), if_neg (by omega), if_neg (by omega), if_neg (by omega), if_pos (by omega)] <;> rfl)
                          | (rw [if_neg (by omega), if_neg (by omega), if_neg (by omega), if_neg (by omega), if_neg (by omega), if_neg (by omega), if_pos (by omega)] <;> rfl)
                          | (rw [if_neg (by omega), if_neg (by omega), if_neg (by omega), if_neg (by omega), if_neg (by omega), if_neg (by omega), if_neg (by omega), if_pos (by omega)] <;> rfl)
                          | (rw [if_neg (by omega), if_neg (by omega), if_neg (by omega), if_neg (by omega), if_neg (by omega), if_neg (by omega), if_neg (by omega), if_neg (by omega), if_pos (by omega)] <;> rfl)
                          | (rw [if_neg (by omega), if_neg (by omega), if_neg (by omega), if_neg (by omega), if_neg (by omega), if_neg (by omega), if_neg (by omega), if_neg (by omega), if_neg (by omega)] <;> rfl)
                          | trace_state
                      · try simp only [decide_eq_true_eq, decide_eq_false_iff_not, Bool.not_eq_true', Bool.not_eq_false', Int.not_lt, Int.not_le, Nat.not_lt, Nat.not_le, Bool.true_eq, Bool.false_eq, reduceCtorEq] at c75
                        refine gc_skip ?_
                        refine hK26 _ _ ?_
                        clear hK26; try clear K26
                        refine gc_seq fun K30 hK30 => ?_
                        refine gc_seq fun K31 hK31 => ?_
                        refine gc_region ?_
                        refine gl_op rfl rfl rfl (op_fieldB 3 rfl Tryd.underlying25 rfl el23 rfl rfl) ?_
                        refine gl_op rfl rfl rfl (op_loadB 0 hT hS rfl rfl rfl rfl rfl rfl) ?_
                        refine gl_op rfl rfl rfl (op_pure hT rfl) ?_
                        refine gl_op rfl rfl rfl (op_pure hT rfl) ?_
                        refine gl_op rfl rfl rfl (op_pure hT rfl) ?_
                        refine gl_split (t := 82) rfl (fun c82 => ?_) (fun c82 => ?_)
                        · try simp only [decide_eq_true_eq, decide_eq_false_iff_not, Bool.not_eq_true', Bool.not_eq_false', Int.not_lt, Int.not_le, Nat.not_lt, Nat.not_le, Bool.true_eq, Bool.false_eq, reduceCtorEq] at c82
                          refine gl_un rfl rfl rfl rfl ?_
                          refine gl_op rfl rfl rfl (op_fieldB 2 rfl Tryd.underlying25 rfl el3 rfl rfl) ?_
                          refine gl_un rfl rfl rfl rfl ?_
                          refine gl_op rfl rfl rfl (op_loadB 0 hT hS rfl rfl rfl rfl rfl rfl) ?_
                          refine gl_un rfl rfl rfl rfl ?_
                          refine gl_op rfl rfl rfl (op_pure hT rfl) ?_
                          refine gl_un rfl rfl rfl rfl ?_
                          refine gl_op rfl rfl rfl (op_pure hT rfl) ?_
                          refine gl_split (t := 86) rfl (fun c86 => ?_) (fun c86 => ?_)
                          · try simp only [decide_eq_true_eq, decide_eq_false_iff_not, Bool.not_eq_true', Bool.not_eq_false', Int.not_lt, Int.not_le, Nat.not_lt, Nat.not_le, Bool.true_eq, Bool.false_eq, reduceCtorEq] at c86
                            refine gl_pass rfl rfl rfl rfl rfl rfl ?_
                            refine gl_pass rfl rfl rfl rfl rfl rfl ?_
                            refine gl_un rfl rfl rfl rfl ?_
                            refine gl_op rfl rfl rfl (op_pure hT rfl) ?_
                            refine gl_op rfl rfl rfl (op_pure hT rfl) ?_
                            refine gl_nil ?_
                            refine hK31 _ _ ?_
                            clear hK31; try clear K31
                            refine gc_cond_t rfl ?_
                            refine gc_seq fun K32 hK32 => ?_
                            refine gc_region ?_
                            refine gl_op rfl rfl rfl (op_pure hT rfl) ?_
                            refine gl_op rfl rfl rfl (op_pure hT rfl) ?_
                            refine gl_nil ?_
                            refine hK32 _ _ ?_
                            clear hK32; try clear K32
                            refine gc_ret ?_
                            try simp only [x_then_ret, x_block_ret]
                            refine gk_ret2 rfl rfl rfl ?_
                            refine ⟨?_, hS.below⟩
                            rw [hR]
                            first
                              | (rw [if_pos (by omega)] <;> rfl)
                              | (rw [if_neg (by omega), if_pos (by omega)] <;> rfl)
                              | (rw [if_neg (by omega), if_neg (by omega), if_pos (by omega)] <;> rfl)
                              | (rw [if_neg (by omega), if_neg (by omega), if_neg (by omega), if_pos (by omega)] <;> rfl)
                              | (rw [if_neg (by omega), if_neg (by omega), if_neg (by omega), if_neg (by omega), if_pos (by omega)] <;> rfl)
                              | (rw [if_neg (by omega), if_neg (by omega), if_neg (by omega), if_neg (by omega), if_neg (by omega), if_pos (by omega)] <;> rfl)
                              | (rw [if_neg (by omega), if_neg (by omega), if_neg (by omega), if_neg (by omega), if_neg (by omega), if_neg (by omega), if_pos (by omega)] <;> rfl)
                              | (rw [if_neg (by omega), if_neg (by omega), if_neg (by omega), if_neg (by omega), if_neg (by omega), if_neg (by omega), if_neg (by omega), if_pos (by omega)] <;> rfl)
                              | (rw [if_neg (by omega), if_neg (by omega), if_neg (by omega), if_neg (by omega), if_neg (by omega), if_neg (by omega), if_neg (by omega), if_neg (by omega), if_pos (by omega)] <;> rfl)
                              | (rw [if_neg (by omega), if_neg (by omega), if_neg (by omega), if_neg (by omega), if_neg (by omega), if_neg (by omega), if_neg (by omega), if_neg (by omega), if_neg (by omega)] <;> rfl)
                              | trace_state
                          · try simp only [decide_eq_true_eq, decide_eq_false_iff_not, Bool.not_eq_true', Bool.not_eq_false', Int.not_lt, Int.not_le, Nat.not_lt, Nat.not_le, Bool.true_eq, Bool.false_eq, reduceCtorEq] at c86
                            refine gl_un rfl rfl rfl rfl ?_
                            refine gl_op rfl rfl rfl (op_pure hT rfl) ?_
                            refine gl_un rfl rfl rfl rfl ?_
                            refine gl_op rfl rfl rfl (op_pure hT rfl) ?_
                            refine gl_un rfl rfl rfl rfl ?_
                            refine gl_op rfl rfl rfl (op_pure hT rfl) ?_
                            refine gl_op rfl rfl rfl (op_pure hT rfl) ?_
                            refine gl_nil ?_
                            refine hK31 _ _ ?_
                            clear hK31; try clear K31
                            refine gc_cond rfl rfl (fun c90 => ?_) (fun c90 => ?_)
                            · try simp only [decide_eq_true_eq, decide_eq_false_iff_not, Bool.not_eq_true', Bool.not_eq_false', Int.not_lt, Int.not_le, Nat.not_lt, Nat.not_le, Bool.true_eq, Bool.false_eq, reduceCtorEq] at c90
                              refine gc_seq fun K33 hK33 => ?_
                              refine gc_region ?_
                              refine gl_op rfl rfl rfl (op_pure hT rfl) ?_
                              refine gl_op rfl rfl rfl (op_pure hT rfl) ?_
                              refine gl_nil ?_
                              refine hK33 _ _ ?_
                              clear hK33; try clear K33
                              refine gc_ret ?_
                              try simp only [x_then_ret, x_block_ret]
                              refine gk_ret2 rfl rfl rfl ?_
                              refine ⟨?_, hS.below⟩
                              rw [hR]
                              first
                                | (rw [if_pos (by omega)] <;> rfl)
                                | (rw [if_neg (by omega), if_pos (by omega)] <;> rfl)
                                | (rw [if_neg (by omega), if_neg (by omega), if_pos (by omega)] <;> rfl)
                                | (rw [if_neg (by omega), if_neg (by omega), if_neg (by omega), if_pos (by omega)] <;> rfl)
                                | (rw [if_neg (by omega), if_neg (by omega), if_neg (by omega), if_neg (by omega), if_pos (by omega)] <;> rfl)
                                | (rw [if_neg (by omega), if_neg (by omega), if_neg (by omega), if_neg (by omega), if_neg (by omega), if_pos (by omega)] <;> rfl)
                                | (rw [if_neg (by omega), if_neg (by omega), if_neg (by omega), if_neg (by omega), if_neg (by omega), if_neg (by omega), if_pos (by omega)] <;> rfl)
                                | (rw [if_neg (by omega), if_neg (by omega), if_neg (by omega), if_neg (by omega), if_neg (by omega), if_neg (by omega), if_neg (by omega), if_pos (by omega)] <;> rfl)
                                | (rw [if_neg (by omega), if_neg (by omega), if_neg (by omega), if_neg (by omega), if_neg (by omega), if_neg (by omega), if_neg (by omega), if_neg (by omega), if_pos (by omega)] <;> rfl)
                                | (rw [if_neg (by omega), if_neg (by omega), if_neg (by omega), if_neg (by omega), if_neg (by omega), if_neg (by omega), if_neg (by omega), if_neg (by omega), if_neg (by omega)] <;> rfl)
                                | trace_state
                            · try simp only [decide_eq_true_eq, decide_eq_false_iff_not, Bool.not_eq_true', Bool.not_eq_false', Int.not_lt, Int.not_le, Nat.not_lt, Nat.not_le, Bool.true_eq, Bool.false_eq, reduceCtorEq] at c90
                              refine gc_skip ?_
                              refine hK30 _ _ ?_
                              clear hK30; try clear K30
                              refine gc_seq fun K34 hK34 => ?_
                              refine gc_seq fun K35 hK35 => ?_
                              refine gc_region ?_
                              refine gl_op rfl rfl rfl (op_fieldB 4 rfl Tryd.underlying25 rfl el3 rfl rfl) ?_
                              refine gl_op rfl rfl rfl (op_loadB 0 hT hS rfl rfl rfl rfl rfl rfl) ?_
                              refine gl_op rfl rfl rfl (op_pure hT rfl) ?_
                              refine gl_op rfl rfl rfl (op_pure hT rfl) ?_
                              refine gl_split (t := 94) rfl (fun c94 => ?_) (fun c94 => ?_)
                              · try simp only [decide_eq_true_eq, decide_eq_false_iff_not, Bool.not_eq_true', Bool.not_eq_false', Int.not_lt, Int.not_le, Nat.not_lt, Nat.not_le, Bool.true_eq, Bool.false_eq, reduceCtorEq] at c94
                                refine gl_pass rfl rfl rfl rfl rfl rfl ?_
                                refine gl_pass rfl rfl rfl rfl rfl rfl ?_
                                refine gl_pass rfl rfl rfl rfl rfl rfl ?_
                                refine gl_op rfl rfl rfl (op_pure hT rfl) ?_
                                refine gl_op rfl rfl rfl (op_pure hT rfl) ?_
                                refine gl_pass rfl rfl rfl rfl rfl rfl ?_
                                refine gl_pass rfl rfl rfl rfl rfl rfl ?_
                                refine gl_pass rfl rfl rfl rfl rfl rfl ?_
                                refine gl_op rfl rfl rfl (op_pure hT rfl) ?_
                                refine gl_op rfl rfl rfl (op_pure hT rfl) ?_
                                refine gl_pass rfl rfl rfl rfl rfl rfl ?_
                                refine gl_pass rfl rfl rfl rfl rfl rfl ?_
                                refine gl_pass rfl rfl rfl rfl rfl rfl ?_
                                refine gl_op rfl rfl rfl (op_pure hT rfl) ?_
                                refine gl_op rfl rfl rfl (op_pure hT rfl) ?_
                                refine gl_pass rfl rfl rfl rfl rfl rfl ?_
                                refine gl_pass rfl rfl rfl rfl rfl rfl ?_
                                refine gl_pass rfl rfl rfl rfl rfl rfl ?_
                                refine gl_op rfl rfl rfl (op_pure hT rfl) ?_
                                refine gl_op rfl rfl rfl (op_pure hT rfl) ?_
                                refine gl_pass rfl rfl rfl rfl rfl rfl ?_
                                refine gl_pass rfl rfl rfl rfl rfl rfl ?_
                                refine gl_pass rfl rfl rfl rfl rfl rfl ?_
                                refine gl_op rfl rfl rfl (op_pure hT rfl) ?_
                                refine gl_nil ?_
                                refine hK35 _ _ ?_
                                clear hK35; try clear K35
                                refine gc_cond_t rfl ?_
                                refine gc_seq fun K36 hK36 => ?_
                                refine gc_region ?_
                                refine gl_op rfl rfl rfl (op_pure hT rfl) ?_
                                refine gl_op rfl rfl rfl (op_pure hT rfl) ?_
                                refine gl_nil ?_
                                refine hK36 _ _ ?_
                                clear hK36; try clear K36
                                refine gc_ret ?_
                                try simp only [x_then_ret, x_block_ret]
                                refine gk_ret2 rfl rfl rfl ?_
                                refine ⟨?_, hS.below⟩
                                rw [hR]
                                first
                                  | (rw [if_pos (by omega)] <;> rfl)
                                  | (rw [if_neg (by omega), if_pos (by omega)] <;> rfl)
                                  | (rw [if_neg (by omega), if_neg (by omega), if_pos (by omega)] <;> rfl)
                                  | (rw [if_neg (by omega), if_neg (by omega), if_neg (by omega), if_pos (by omega)] <;> rfl)
                                  | (rw [if_neg (by omega), if_neg (by omega), if_neg (by omega), if_neg (by omega), if_pos (by omega)] <;> rfl)
                                  | (rw [if_neg (by omega), if_neg (by omega), if_neg (by omega), if_neg (by omega), if_neg (by omega), if_pos (by omega)] <;> rfl)
                                  | (rw [if_neg (by omega), if_neg (by omega), if_neg (by omega), if_neg (by omega), if_neg (by omega), if_neg (by omega), if_pos (by omega)] <;> rfl)
                                  | (rw [if_neg (by omega), if_neg (by omega), if_neg (by omega), if_neg (by omega), if_neg (by omega), if_neg (by omega), if_neg (by omega), if_pos (by omega)] <;> rfl)
                                  | (rw [if_neg (by omega), if_neg (by omega), if_neg (by omega), if_neg (by omega), if_neg (by omega), if_neg (by omega), if_neg (by omega), if_neg (by omega), if_pos (by omega)] <;> rfl)
                                  | (rw [if_neg (by omega), if_neg (by omega), if_neg (by omega), if_neg (by omega), if_neg (by omega), if_neg (by omega), if_neg (by omega), if_neg (by omega), if_neg (by omega)] <;> rfl)
                                  | trace_state
                              · try simp only [decide_eq_true_eq, decide_eq_false_iff_not, Bool.not_eq_true', Bool.not_eq_false', Int.not_lt, Int.not_le, Nat.not_lt, Nat.not_le, Bool.true_eq, Bool.false_eq, reduceCtorEq] at c94
                                refine gl_un rfl rfl rfl rfl ?_
                                refine gl_op rfl rfl rfl (op_fieldB 4 rfl Tryd.underlying25 rfl el3 rfl rfl) ?_
                                refine gl_un rfl rfl rfl rfl ?_
                                refine gl_op rfl rfl rfl (op_loadB 0 hT hS rfl rfl rfl rfl rfl rfl) ?_
                                refine gl_un rfl rfl rfl rfl ?_
                                refine gl_op rfl rfl rfl (op_pure hT rfl) ?_
                                refine gl_op rfl rfl rfl (op_pure hT rfl) ?_
                                refine gl_op rfl rfl rfl (op_pure hT rfl) ?_
                                refine gl_split (t := 99) rfl (fun c99 => ?_) (fun c99 => ?_)
                                · try simp only [decide_eq_true_eq, decide_eq_false_iff_not, Bool.not_eq_true', Bool.not_eq_false', Int.not_lt, Int.not_le, Nat.not_lt, Nat.not_le, Bool.true_eq, Bool.false_eq, reduceCtorEq] at c99
                                  refine gl_pass rfl rfl rfl rfl rfl rfl ?_
                                  refine gl_pass rfl rfl rfl rfl rfl rfl ?_
                                  refine gl_pass rfl rfl rfl rfl rfl rfl ?_
                                  refine gl_op rfl rfl rfl (op_pure hT rfl) ?_
                                  refine gl_op rfl rfl rfl (op_pure hT rfl) ?_
                                  refine gl_pass rfl rfl rfl rfl rfl rfl ?_
                                  refine gl_pass rfl rfl rfl rfl rfl rfl ?_
                                  refine gl_pass rfl rfl rfl rfl rfl rfl ?_
                                  refine gl_op rfl rfl rfl (op_pure hT rfl) ?_
                                  refine gl_op rfl rfl rfl (op_pure hT rfl) ?_
                                  refine gl_pass rfl rfl rfl rfl rfl rfl ?_
                                  refine gl_pass rfl rfl rfl rfl rfl rfl ?_
                                  refine gl_pass rfl rfl rfl rfl rfl rfl ?_
                                  refine gl_op rfl rfl rfl (op_pure hT rfl) ?_
                                  refine gl_op rfl rfl rfl (op_pure hT rfl) ?_
                                  refine gl_pass rfl rfl rfl rfl rfl rfl ?_
                                  refine gl_pass rfl rfl rfl rfl rfl rfl ?_
                                  refine gl_pass rfl rfl rfl rfl rfl rfl ?_
                                  refine gl_op rfl rfl rfl (op_pure hT rfl) ?_
                                  refine gl_nil ?_
                                  refine hK35 _ _ ?_
                                  clear hK35; try clear K35
                                  refine gc_cond_t rfl ?_
                                  refine gc_seq fun K37 hK37 => ?_
                                  refine gc_region ?_
                                  refine gl_op rfl rfl rfl (op_pure hT rfl) ?_
                                  refine gl_op rfl rfl rfl (op_pure hT rfl) ?_
                                  refine gl_nil ?_
                                  refine hK37 _ _ ?_
                                  clear hK37; try clear K37
                                  refine gc_ret ?_
                                  try simp only [x_then_ret, x_block_ret]
                                  refine gk_ret2 rfl rfl rfl ?_
                                  refine ⟨?_, hS.below⟩
                                  rw [hR]
                                  first
                                    | (rw [if_pos (by omega)] <;> rfl)
                                    | (rw [if_neg (by omega), if_pos (by omega)] <;> rfl)
                                    | (rw [if_neg (by omega), if_neg (by omega), if_pos (by omega)] <;> rfl)
                                    | (rw [if_neg (by omega), if_neg (by omega), if_neg (by omega), if_pos (by omega)] <;> rfl)
                                    | (rw [if_neg (by omega), if_neg (by omega), if_neg (by omega), if_neg (by omega), if_pos (by omega)] <;> rfl)
                                    | (rw [if_neg (by omega), if_neg (by omega), if_neg (by omega), if_neg (by omega), if_neg (by omega), if_pos (by omega)] <;> rfl)
                                    | (rw [if_neg (by omega), if_neg (by omega), if_neg (by omega), if_neg (by omega), if_neg (by omega), if_neg (by omega), if_pos (by omega)] <;> rfl)
                                    | (rw [if_neg (by omega), if_neg (by omega), if_neg (by omega), if_neg (by omega), if_neg (by omega), if_neg (by omega), if_neg (by omega), if_pos (by omega)] <;> rfl)
                                    | (rw [if_neg (by omega), if_neg (by omega), if_neg (by omega), if_neg (by omega), if_neg (by omega), if_neg (by omega), if_neg (by omega), if_neg (by omega), if_pos (by omega)] <;> rfl)
                                    | (rw [if_neg (by omega), if_neg (by omega), if_neg (by omega), if_neg (by omega), if_neg (by omega), if_neg (by omega), if_neg (by omega), if_neg (by omega), if_neg (by omega)] <;> rfl)
                                    | trace_state
                                · try simp only [decide_eq_true_eq, decide_eq_false_iff_not, Bool.not_eq_true', Bool.not_eq_false', Int.not_lt, Int.not_le, Nat.not_lt, Nat.not_le, Bool.true_eq, Bool.false_eq, reduceCtorEq] at c99
                                  refine gl_un rfl rfl rfl rfl ?_
                                  refine gl_op rfl rfl rfl (op_fieldB 5 rfl Tryd.underlying25 rfl el3 rfl rfl) ?_
                                  refine gl_un rfl rfl rfl rfl ?_
                                  refine gl_op rfl rfl rfl (op_loadB 0 hT hS rfl rfl rfl rfl rfl rfl) ?_
                                  refine gl_un rfl rfl rfl rfl ?_
                                  refine gl_op rfl rfl rfl (op_pure hT rfl) ?_
                                  refine gl_op rfl rfl rfl (op_pure hT rfl) ?_
                                  refine gl_op rfl rfl rfl (op_pure hT rfl) ?_
                                  refine gl_split (t := 104) rfl (fun c104 => ?_) (fun c104 => ?_)
                                  · try simp only [decide_eq_true_eq, decide_eq_false_iff_not, Bool.not_eq_true', Bool.not_eq_false', Int.not_lt, Int.not_le, Nat.not_lt, Nat.not_le, Bool.true_eq, Bool.false_eq, reduceCtorEq] at c104
                                    refine gl_pass rfl rfl rfl rfl rfl rfl ?_
                                    refine gl_pass rfl rfl rfl rfl rfl rfl ?_
                                    refine gl_pass rfl rfl rfl rfl rfl rfl ?_
                                    refine gl_op rfl rfl rfl (op_pure hT rfl) ?_
                                    refine gl_op rfl rfl rfl (op_pure hT rfl) ?_
                                    refine gl_pass rfl rfl rfl rfl rfl rfl ?_
                                    refine gl_pass rfl rfl rfl rfl rfl rfl ?_
                                    refine gl_pass rfl rfl rfl rfl rfl rfl ?_
                                    refine gl_op rfl rfl rfl (op_pure hT rfl) ?_
                                    refine gl_op rfl rfl rfl (op_pure hT rfl) ?_
                                    refine gl_pass rfl rfl rfl rfl rfl rfl ?_
                                    refine gl_pass rfl rfl rfl rfl rfl rfl ?_
                                    refine gl_pass rfl rfl rfl rfl rfl rfl ?_
                                    refine gl_op rfl rfl rfl (op_pure hT rfl) ?_
                                    refine gl_nil ?_
                                    refine hK35 _ _ ?_
                                    clear hK35; try clear K35
                                    refine gc_cond_t rfl ?_
                                    refine gc_seq fun K38 hK38 => ?_
                                    refine gc_region ?_
                                    refine gl_op rfl rfl rfl (op_pure hT rfl) ?_
                                    refine gl_op rfl rfl rfl (op_pure hT rfl) ?_
                                    refine gl_nil ?_
                                    refine hK38 _ _ ?_
                                    clear hK38; try clear K38
                                    refine gc_ret ?_
                                    try simp only [x_then_ret, x_block_ret]
                                    refine gk_ret2 rfl rfl rfl ?_
                                    refine ⟨?_, hS.below⟩
                                    rw [hR]
                                    first
                                      | (rw [if_pos (by omega)] <;> rfl)
                                      | (rw [if_neg (by omega), if_pos (by omega)] <;> rfl)
                                      | (rw [if_neg (by omega), if_neg (by omega), if_pos (by omega)] <;> rfl)
                                      | (rw [if_neg (by omega), if_neg (by omega), if_neg (by omega), if_pos (by omega)] <;> rfl)
                                      | (rw [if_neg (by omega), if_neg (by omega), if_neg (by omega), if_neg (by omega), if_pos (by omega)] <;> rfl)
                                      | (rw [if_neg (by omega), if_neg (by omega), if_neg (by omega), if_neg (by omega), if_neg (by omega), if_pos (by omega)] <;> rfl)
                                      | (rw [if_neg (by omega), if_neg (by omega), if_neg (by omega), if_neg (by omega), if_neg (by omega), if_neg (by omega), if_pos (by omega)] <;> rfl)
                                      | (rw [if_neg (by omega), if_neg (by omega), if_neg (by omega), if_neg (by omega), if_neg (by omega), if_neg (by omega), if_neg (by omega), if_pos (by omega)] <;> rfl)
                                      | (rw [if_neg (by omega), if_neg (by omega), if_neg (by omega), if_neg (by omega), if_neg (by omega), if_neg (by omega), if_neg (by omega), if_neg (by omega), if_pos (by omega)] <;> rfl)
                                      | (rw [if_neg (by omega), if_neg (by omega), if_neg (by omega), if_neg (by omega), if_neg (by omega), if_neg (by omega), if_neg (by omega), if_neg (by omega), if_neg (by omega)] <;> rfl)
                                      | trace_state
                                  · try simp only [decide_eq_true_eq, decide_eq_false_iff_not, Bool.not_eq_true', Bool.not_eq_false', Int.not_lt, Int.not_le, Nat.not_lt, Nat.not_le, Bool.true_eq, Bool.false_eq, reduceCtorEq] at c104
                                    refine gl_un rfl rfl rfl rfl ?_
                                    refine gl_op rfl rfl rfl (op_fieldB 5 rfl Tryd.underlying25 rfl el3 rfl rfl) ?_
                                    refine gl_un rfl rfl rfl rfl ?_
                                    refine gl_op rfl rfl rfl (op_loadB 0 hT hS rfl rfl rfl rfl rfl rfl) ?_
                                    refine gl_un rfl rfl rfl rfl ?_
                                    refine gl_op rfl rfl rfl (op_pure hT rfl) ?_
                                    refine gl_op rfl rfl rfl (op_pure hT rfl) ?_
                                    refine gl_op rfl rfl rfl (op_pure hT rfl) ?_
                                    refine gl_split (t := 109) rfl (fun c109 => ?_) (fun c109 => ?_)
                                    · try simp only [decide_eq_true_eq, decide_eq_false_iff_not, Bool.not_eq_true', Bool.not_eq_false', Int.not_lt, Int.not_le, Nat.not_lt, Nat.not_le, Bool.true_eq, Bool.false_eq, reduceCtorEq] at c109
                                      refine gl_pass rfl rfl rfl rfl rfl rfl ?_
                                      refine gl_pass rfl rfl rfl rfl rfl rfl ?_
                                      refine gl_pass rfl rfl rfl rfl rfl rfl ?_
                                      refine gl_op rfl rfl rfl (op_pure hT rfl) ?_
                                      refine gl_op rfl rfl rfl (op_pure hT rfl) ?_
                                      refine gl_pass rfl rfl rfl rfl rfl rfl ?_
                                      refine gl_pass rfl rfl rfl rfl rfl rfl ?_
                                      refine gl_pass rfl rfl rfl rfl rfl rfl ?_
                                      refine gl_op rfl rfl rfl (op_pure hT rfl) ?_
                                      refine gl_nil ?_
                                      refine hK35 _ _ ?_
                                      clear hK35; try clear K35
                                      refine gc_cond_t rfl ?_
                                      refine gc_seq fun K39 hK39 => ?_
                                      refine gc_region ?_
                                      refine gl_op rfl rfl rfl (op_pure hT rfl) ?_
                                      refine gl_op rfl rfl rfl (op_pure hT rfl) ?_
                                      refine gl_nil ?_
                                      refine hK39 _ _ ?_
                                      clear hK39; try clear K39
                                      refine gc_ret ?_
                                      try simp only [x_then_ret, x_block_ret]
                                      refine gk_ret2 rfl rfl rfl ?_
                                      refine ⟨?_, hS.below⟩
                                      rw [hR]
                                      first
                                        | (rw [if_pos (by omega)] <;> rfl)
                                        | (rw [if_neg (by omega), if_pos (by omega)] <;> rfl)
                                        | (rw [if_neg (by omega), if_neg (by omega), if_pos (by omega)] <;> rfl)
                                        | (rw [if_neg (by omega), if_neg (by omega), if_neg (by omega), if_pos (by omega)] <;> rfl)
                                        | (rw [if_neg (by omega), if_neg (by omega), if_neg (by omega), if_neg (by omega), if_pos (by omega)] <;> rfl)
                                        | (rw [if_neg (by omega), if_neg (by omega), if_neg (by omega), if_neg (by omega), if_neg (by omega), if_pos (by omega)] <;> rfl)
                                        | (rw [if_neg (by omega), if_neg (by omega), if_neg (by omega), if_neg (by omega), if_neg (by omega), if_neg (by omega), if_pos (by omega)] <;> rfl)
                                        | (rw [if_neg (by omega), if_neg (by omega), if_neg (by omega), if_neg (by omega), if_neg (by omega), if_neg (by omega), if_neg (by omega), if_pos (by omega)] <;> rfl)
                                        | (rw [if_neg (by omega), if_neg (by omega), if_neg (by omega), if_neg (by omega), if_neg (by omega), if_neg (by omega), if_neg (by omega), if_neg (by omega), if_pos (by omega)] <;> rfl)
                                        | (rw [if_neg (by omega), if_neg (by omega), if_neg (by omega), if_neg (by omega), if_neg (by omega), if_neg (by omega), if_neg (by omega), if_neg (by omega), if_neg (by omega)] <;> rfl)
                                        | trace_state
                                    · try simp only [decide_eq_true_eq, decide_eq_false_iff_not, Bool.not_eq_true', Bool.not_eq_false', Int.not_lt, Int.not_le, Nat.not_lt, Nat.not_le, Bool.true_eq, Bool.false_eq, reduceCtorEq] at c109
                                      refine gl_un rfl rfl rfl rfl ?_
                                      refine gl_op rfl rfl rfl (op_fieldB 6 rfl Tryd.underlying25 rfl el3 rfl rfl) ?_
                                      refine gl_un rfl rfl rfl rfl ?_
                                      refine gl_op rfl rfl rfl (op_loadB 0 hT hS rfl rfl rfl rfl rfl rfl) ?_
                                      refine gl_un rfl rfl rfl rfl ?_
                                      refine gl_op rfl rfl rfl (op_pure hT rfl) ?_
                                      refine gl_op rfl rfl rfl (op_pure hT rfl) ?_
                                      refine gl_op rfl rfl rfl (op_pure hT rfl) ?_
                                      refine gl_split (t := 114) rfl (fun c114 => ?_) (fun c114 => ?_)
                                      · try simp only [decide_eq_true_eq, decide_eq_false_iff_not, Bool.not_eq_true', Bool.not_eq_false', Int.not_lt, Int.not_le, Nat.not_lt, Nat.not_le, Bool.true_eq, Bool.false_eq, reduceCtorEq] at c114
                                        refine gl_pass rfl rfl rfl rfl rfl rfl ?_
                                        refine gl_pass rfl rfl rfl rfl rfl rfl ?_
                                        refine gl_pass rfl rfl rfl rfl rfl rfl ?_
                                        refine gl_op rfl rfl rfl (op_pure hT rfl) ?_
                                        refine gl_nil ?_
                                        refine hK35 _ _ ?_
                                        clear hK35; try clear K35
                                        refine gc_cond_t rfl ?_
                                        refine gc_seq fun K40 hK40 => ?_
                                        refine gc_region ?_
                                        refine gl_op rfl rfl rfl (op_pure hT rfl) ?_
                                        refine gl_op rfl rfl rfl (op_pure hT rfl) ?_
                                        refine gl_nil ?_
                                        refine hK40 _ _ ?_
                                        clear hK40; try clear K40
                                        refine gc_ret ?_
                                        try simp only [x_then_ret, x_block_ret]
                                        refine gk_ret2 rfl rfl rfl ?_
                                        refine ⟨?_, hS.below⟩
                                        rw [hR]
                                        first
                                          | (rw [if_pos (by omega)] <;> rfl)
                                          | (rw [if_neg (by omega), if_pos (by omega)] <;> rfl)
                                          | (rw [if_neg (by omega), if_neg (by omega), if_pos (by omega)] <;> rfl)
                                          | (rw [if_neg (by omega), if_neg (by omega), if_neg (by omega), if_pos (by omega)] <;> rfl)
                                          | (rw [if_neg (by omega), if_neg (by omega), if_neg (by omega), if_neg (by omega), if_pos (by omega)] <;> rfl)
                                          | (rw [if_neg (by omega), if_neg (by omega), if_neg (by omega), if_neg (by omega), if_neg (by omega), if_pos (by omega)] <;> rfl)
                                          | (rw [if_neg (by omega), if_neg (by omega), if_neg (by omega), if_neg (by omega), if_neg (by omega), if_neg (by omega), if_pos (by omega)] <;> rfl)
                                          | (rw [if_neg (by omega), if_neg (by omega), if_neg (by omega), if_neg (by omega), if_neg (by omega), if_neg (by omega), if_neg (by omega), if_pos (by omega)] <;> rfl)
                                          | (rw [if_neg (by omega), if_neg (by omega), if_neg (by omega), if_neg (by omega), if_neg (by omega), if_neg (by omega), if_neg (by omega), if_neg (by omega), if_pos (by omega)] <;> rfl)
                                          | (rw [if_neg (by omega), if_neg (by omega), if_neg (by omega), if_neg (by omega), if_neg (by omega), if_neg (by omega), if_neg (by omega), if_neg (by omega), if_neg (by omega)] <;> rfl)
                                          | trace_state
                                      · try simp only [decide_eq_true_eq, decide_eq_false_iff_not, Bool.not_eq_true', Bool.not_eq_false', Int.not_lt, Int.not_le, Nat.not_lt, Nat.not_le, Bool.true_eq, Bool.false_eq, reduceCtorEq] at c114
                                        refine gl_un rfl rfl rfl rfl ?_
                                        refine gl_op rfl rfl rfl (op_fieldB 6 rfl Tryd.underlying25 rfl el3 rfl rfl) ?_
                                        refine gl_un rfl rfl rfl rfl ?_
                                        refine gl_op rfl rfl rfl (op_loadB 0 hT hS rfl rfl rfl rfl rfl rfl) ?_
                                        refine gl_un rfl rfl rfl rfl ?_
                                        refine gl_op rfl rfl rfl (op_pure hT rfl) ?_
                                        refine gl_op rfl rfl rfl (op_pure hT rfl) ?_
                                        refine gl_nil ?_
                                        refine hK35 _ _ ?_
                                        clear hK35; try clear K35
                                        refine gc_cond rfl rfl (fun c118 => ?_) (fun c118 => ?_)
                                        · try simp only [decide_eq_true_eq, decide_eq_false_iff_not, Bool.not_eq_true', Bool.not_eq_false', Int.not_lt, Int.not_le, Nat.not_lt, Nat.not_le, Bool.true_eq, Bool.false_eq, reduceCtorEq] at c118
                                          refine gc_seq fun K41 hK41 => ?_
                                          refine gc_region ?_
                                          refine gl_op rfl rfl rfl (op_pure hT rfl) ?_
                                          refine gl_op rfl rfl rfl (op_pure hT rfl) ?_
                                          refine gl_nil ?_
                                          refine hK41 _ _ ?_
                                          clear hK41; try clear K41
                                          refine gc_ret ?_
                                          try simp only [x_then_ret, x_block_ret]
                                          refine gk_ret2 rfl rfl rfl ?_
                                          refine ⟨?_, hS.below⟩
                                          rw [hR]
                                          first
                                            | (rw [if_pos (by omega)] <;> rfl)
                                            | (rw [if_neg (by omega), if_pos (by omega)] <;> rfl)
                                            | (rw [if_neg (by omega), if_neg (by omega), if_pos (by omega)] <;> rfl)
                                            | (rw [if_neg (by omega), if_neg (by omega), if_neg (by omega), if_pos (by omega)] <;> rfl)
                                            | (rw [if_neg (by omega), if_neg (by omega), if_neg (by omega), if_neg (by omega), if_pos (by omega)] <;> rfl)
                                            | (rw [if_neg (by omega), if_neg (by omega), if_neg (by omega), if_neg (by omega), if_neg (by omega), if_pos (by omega)] <;> rfl)
                                            | (rw [if_neg (by omega), if_neg (by omega), if_neg (by omega), if_neg (by omega), if_neg (by omega), if_neg (by omega), if_pos (by omega)] <;> rfl)
                                            | (rw [if_neg (by omega), if_neg (by omega), if_neg (by omega), if_neg (by omega), if_neg (by omega), if_neg (by omega), if_neg (by omega), if_pos (by omega)] <;> rfl)
                                            | (rw [if_neg (by omega), if_neg (by omega), if_neg (by omega), if_neg (by omega), if_neg (by omega), if_neg (by omega), if_neg (by omega), if_neg (by omega), if_pos (by omega)] <;> rfl)
                                            | (rw [if_neg (by omega), if_neg (by omega), if_neg (by omega), if_neg (by omega), if_neg (by omega), if_neg (by omega), if_neg (by omega), if_neg (by omega), if_neg (by omega)] <;> rfl)
                                            | trace_state
                                        · try simp only [decide_eq_true_eq, decide_eq_false_iff_not, Bool.not_eq_true', Bool.not_eq_false', Int.not_lt, Int.not_le, Nat.not_lt, Nat.not_le, Bool.true_eq, Bool.false_eq, reduceCtorEq] at c118
                                          refine gc_skip ?_
                                          refine hK34 _ _ ?_
                                          clear hK34; try clear K34
                                          refine gc_seq fun K42 hK42 => ?_
                                          refine gc_region ?_
                                          refine gl_op rfl rfl rfl (op_pure hT rfl) ?_
                                          refine gl_op rfl rfl rfl (op_pure hT rfl) ?_
                                          refine gl_nil ?_
                                          refine hK42 _ _ ?_
                                          clear hK42; try clear K42
                                          refine gc_ret ?_
                                          try simp only [x_then_ret, x_block_ret]
                                          refine gk_ret2 rfl rfl rfl ?_
                                          refine ⟨?_, hS.below⟩
                                          rw [hR]
                                          first
                                            | (rw [if_pos (by omega)] <;> rfl)
                                            | (rw [if_neg (by omega), if_pos (by omega)] <;> rfl)
                                            | (rw [if_neg (by omega), if_neg (by omega), if_pos (by omega)] <;> rfl)
                                            | (rw [if_neg (by omega), if_neg (by omega), if_neg (by omega), if_pos (by omega)] <;> rfl)
                                            | (rw [if_neg (by omega), if_neg (by omega), if_neg (by omega), if_neg (by omega), if_pos (by omega)] <;> rfl)
                                            | (rw [if_neg (by omega), if_neg (by omega), if_neg (by omega), if_neg (by omega), if_neg (by omega), if_pos (by omega)] <;> rfl)
                                            | (rw [if_neg (by omega), if_neg (by omega), if_neg (by omega), if_neg (by omega), if_neg (by omega), if_neg (by omega), if_pos (by omega)] <;> rfl)
                                            | (rw [if_neg (by omega), if_neg (by omega), if_neg (by omega), if_neg (by omega), if_neg (by omega), if_neg (by omega), if_neg (by omega), if_pos (by omega)] <;> rfl)
                                            | (rw [if_neg (by omega), if_neg (by omega), if_neg (by omega), if_neg (by omega), if_neg (by omega), if_neg (by omega), if_neg (by omega), if_neg (by omega), if_pos (by omega)] <;> rfl)
                                            | (rw [if_neg (by omega), if_neg (by omega), if_neg (by omega), if_neg (by omega), if_neg (by omega), if_neg (by omega), if_neg (by omega), if_neg (by omega), if_neg (by omega)] <;> rfl)
                                            | trace_state
                        · try simp only [decide_eq_true_eq, decide_eq_false_iff_not, Bool.not_eq_true', Bool.not_eq_false', Int.not_lt, Int.not_le, Nat.not_lt, Nat.not_le, Bool.true_eq, Bool.false_eq, reduceCtorEq] at c82
                          refine gl_pass rfl rfl rfl rfl rfl rfl ?_
                          refine gl_pass rfl rfl rfl rfl rfl rfl ?_
                          refine gl_pass rfl rfl rfl rfl rfl rfl ?_
                          refine gl_pass rfl rfl rfl rfl rfl rfl ?_
                          refine gl_none rfl rfl rfl rfl rfl ?_
                          refine gl_none rfl rfl rfl rfl rfl ?_
                          refine gl_pass rfl rfl rfl rfl rfl rfl ?_
                          refine gl_op rfl rfl rfl (op_pure hT rfl) ?_
                          refine gl_nil ?_
                          refine hK31 _ _ ?_
                          clear hK31; try clear K31
                          refine gc_cond_f rfl ?_
                          refine gc_skip ?_
                          refine hK30 _ _ ?_
                          clear hK30; try clear K30
                          refine gc_seq fun K43 hK43 => ?_
                          refine gc_seq fun K44 hK44 => ?_
                          refine gc_region ?_
                          refine gl_op rfl rfl rfl (op_fieldB 4 rfl Tryd.underlying25 rfl el3 rfl rfl) ?_
                          refine gl_op rfl rfl rfl (op_loadB 0 hT hS rfl rfl rfl rfl rfl rfl) ?_
                          refine gl_op rfl rfl rfl (op_pure hT rfl) ?_
                          refine gl_op rfl rfl rfl (op_pure hT rfl) ?_
                          refine gl_split (t := 94) rfl (fun c94 => ?_) (fun c94 => ?_)
                          · try simp only [decide_eq_true_eq, decide_eq_false_iff_not, Bool.not_eq_true', Bool.not_eq_false', Int.not_lt, Int.not_le, Nat.not_lt, Nat.not_le, Bool.true_eq, Bool.false_eq, reduceCtorEq] at c94
                            refine gl_pass rfl rfl rfl rfl rfl rfl ?_
                            refine gl_pass rfl rfl rfl rfl rfl rfl ?_
                            refine gl_pass rfl rfl rfl rfl rfl rfl ?_
                            refine gl_op rfl rfl rfl (op_pure hT rfl) ?_
                            refine gl_op rfl rfl rfl (op_pure hT rfl) ?_
                            refine gl_pass rfl rfl rfl rfl rfl rfl ?_
                            refine gl_pass rfl rfl rfl rfl rfl rfl ?_
                            refine gl_pass rfl rfl rfl rfl rfl rfl ?_
                            refine gl_op rfl rfl rfl (op_pure hT rfl) ?_
                            refine gl_op rfl rfl rfl (op_pure hT rfl) ?_
                            refine gl_pass rfl rfl rfl rfl rfl rfl ?_
                            refine gl_pass rfl rfl rfl rfl rfl rfl ?_
                            refine gl_pass rfl rfl rfl rfl rfl rfl ?_
                            refine gl_op rfl rfl rfl (op_pure hT rfl) ?_
                            refine gl_op rfl rfl rfl (op_pure hT rfl) ?_
                            refine gl_pass rfl rfl rfl rfl rfl rfl ?_
                            refine gl_pass rfl rfl rfl rfl rfl rfl ?_
                            refine gl_pass rfl rfl rfl rfl rfl rfl ?_
                            refine gl_op rfl rfl rfl (op_pure hT rfl) ?_
                            refine gl_op rfl rfl rfl (op_pure hT rfl) ?_
                            refine gl_pass rfl rfl rfl rfl rfl rfl ?_
                            refine gl_pass rfl rfl rfl rfl rfl rfl ?_
                            refine gl_pass rfl rfl rfl rfl rfl rfl ?_
                            refine gl_op rfl rfl rfl (op_pure hT rfl) ?_
                            refine gl_nil ?_
                            refine hK44 _ _ ?_
                            clear hK44; try clear K44
                            refine gc_cond_t rfl ?_
                            refine gc_seq fun K45 hK45 => ?_
                            refine gc_region ?_
                            refine gl_op rfl rfl rfl (op_pure hT rfl) ?_
                            refine gl_op rfl rfl rfl (op_pure hT rfl) ?_
                            refine gl_nil ?_
                            refine hK45 _ _ ?_
                            clear hK45; try clear K45
                            refine gc_ret ?_
                            try simp only [x_then_ret, x_block_ret]
                            refine gk_ret2 rfl rfl rfl ?_
                            refine ⟨?_, hS.below⟩
                            rw [hR]
                            first
                              | (rw [if_pos (by omega)] <;> rfl)
                              | (rw [if_neg (by omega), if_pos (by omega)] <;> rfl)
                              | (rw [if_neg (by omega), if_neg (by omega), if_pos (by omega)] <;> rfl)
                              | (rw [if_neg (by omega), if_neg (by omega), if_neg (by omega), if_pos (by omega)] <;> rfl)
                              | (rw [if_neg (by omega), if_neg (by omega), if_neg (by omega), if_neg (by omega), if_pos (by omega)] <;> rfl)
                              | (rw [if_neg (by omega), if_neg (by omega), if_neg (by omega), if_neg (by omega), if_neg (by omega), if_pos (by omega)] <;> rfl)
                              | (rw [if_neg (by omega), if_neg (by omega), if_neg (by omega), if_neg (by omega), if_neg (by omega), if_neg (by omega), if_pos (by omega)] <;> rfl)
                              | (rw [if_neg (by omega), if_neg (by omega), if_neg (by omega), if_neg (by omega), if_neg (by omega), if_neg (by omega), if_neg (by omega), if_pos (by omega)] <;> rfl)
                              | (rw [if_neg (by omega), if_neg (by omega), if_neg (by omega), if_neg (by omega), if_neg (by omega), if_neg (by omega), if_neg (by omega), if_neg (by omega), if_pos (by omega)] <;> rfl)
                              | (rw [if_neg (by omega), if_neg (by omega), if_neg (by omega), if_neg (by omega), if_neg (by omega), if_neg (by omega), if_neg (by omega), if_neg (by omega), if_neg (by omega)] <;> rfl)
                              | trace_state
                          · try simp only [decide_eq_true_eq, decide_eq_false_iff_not, Bool.not_eq_true', Bool.not_eq_false', Int.not_lt, Int.not_le, Nat.not_lt, Nat.not_le, Bool.true_eq, Bool.false_eq, reduceCtorEq] at c94
                            refine gl_un rfl rfl rfl rfl ?_
                            refine gl_op rfl rfl rfl (op_fieldB 4 rfl Tryd.underlying25 rfl el3 rfl rfl) ?_
                            refine gl_un rfl rfl rfl rfl ?_
                            refine gl_op rfl rfl rfl (op_loadB 0 hT hS rfl rfl rfl rfl rfl rfl) ?_
                            refine gl_un rfl rfl rfl rfl ?_
                            refine gl_op rfl rfl rfl (op_pure hT rfl) ?_
                            refine gl_op rfl rfl rfl (op_pure hT rfl) ?_
                            refine gl_op rfl rfl rfl (op_pure hT rfl) ?_
                            refine gl_split (t := 99) rfl (fun c99 => ?_) (fun c99 => ?_)
                            · try simp only [decide_eq_true_eq, decide_eq_false_iff_not, Bool.not_eq_true', Bool.not_eq_false', Int.not_lt, Int.not_le, Nat.not_lt, Nat.not_le, Bool.true_eq, Bool.false_eq, reduceCtorEq] at c99
                              refine gl_pass rfl rfl rfl rfl rfl rfl ?_
                              refine gl_pass rfl rfl rfl rfl rfl rfl ?_
                              refine gl_pass rfl rfl rfl rfl rfl rfl ?_
                              refine gl_op rfl rfl rfl (op_pure hT rfl) ?_
                              refine gl_op rfl rfl rfl (op_pure hT rfl) ?_
                              refine gl_pass rfl rfl rfl rfl rfl rfl ?_
                              refine gl_pass rfl rfl rfl rfl rfl rfl ?_
                              refine gl_pass rfl rfl rfl rfl rfl rfl ?_
                              refine gl_op rfl rfl rfl (op_pure hT rfl) ?_
                              refine gl_op rfl rfl rfl (op_pure hT rfl) ?_
                              refine gl_pass rfl rfl rfl rfl rfl rfl ?_
                              refine gl_pass rfl rfl rfl rfl rfl rfl ?_
                              refine gl_pass rfl rfl rfl rfl rfl rfl ?_
                              refine gl_op rfl rfl rfl (op_pure hT rfl) ?_
                              refine gl_op rfl rfl rfl (op_pure hT rfl) ?_
                              refine gl_pass rfl rfl rfl rfl rfl rfl ?_
                              refine gl_pass rfl rfl rfl rfl rfl rfl ?_
                              refine gl_pass rfl rfl rfl rfl rfl rfl ?_
                              refine gl_op rfl rfl rfl (op_pure hT rfl) ?_
                              refine gl_nil ?_
                              refine hK44 _ _ ?_
                              clear hK44; try clear K44
                              refine gc_cond_t rfl ?_
                              refine gc_seq fun K46 hK46 => ?_
                              refine gc_region ?_
                              refine gl_op rfl rfl rfl (op_pure hT rfl) ?_
                              refine gl_op rfl rfl rfl (op_pure hT rfl) ?_
                              refine gl_nil ?_
                              refine hK46 _ _ ?_
                              clear hK46; try clear K46
                              refine gc_ret ?_
                              try simp only [x_then_ret, x_block_ret]
                              refine gk_ret2 rfl rfl rfl ?_
                              refine ⟨?_, hS.below⟩
                              rw [hR]
                              first
                                | (rw [if_pos (by omega)] <;> rfl)
                                | (rw [if_neg (by omega), if_pos (by omega)] <;> rfl)
                                | (rw [if_neg (by omega), if_neg (by omega), if_pos (by omega)] <;> rfl)
                                | (rw [if_neg (by omega), if_neg (by omega), if_neg (by omega), if_pos (by omega)] <;> rfl)
                                | (rw [if_neg (by omega), if_neg (by omega), if_neg (by omega), if_neg (by omega), if_pos (by omega)] <;> rfl)
                                | (rw [if_neg (by omega), if_neg (by omega), if_neg (by omega), if_neg (by omega), if_neg (by omega), if_pos (by omega)] <;> rfl)
                                | (rw [if_neg (by omega), if_neg (by omega), if_neg (by omega), if_neg (by omega), if_neg (by omega), if_neg (by omega), if_pos (by omega)] <;> rfl)
                                | (rw [if_neg (by omega), if_neg (by omega), if_neg (by omega), if_neg (by omega), if_neg (by omega), if_neg (by omega), if_neg (by omega), if_pos (by omega)] <;> rfl)
                                | (rw [if_neg (by omega), if_neg (by omega), if_neg (by omega), if_neg (by omega), if_neg (by omega), if_neg (by omega), if_neg (by omega), if_neg (by omega), if_pos (by omega)] <;> rfl)
                                | (rw [if_neg (by omega), if_neg (by omega), if_neg (by omega), if_neg (by omega), if_neg (by omega), if_neg (by omega), if_neg (by omega), if_neg (by omega), if_neg (by omega)] <;> rfl)
                                | trace_state
                            · try simp only [decide_eq_true_eq, decide_eq_false_iff_not, Bool.not_eq_true', Bool.not_eq_false', Int.not_lt, Int.not_le, Nat.not_lt, Nat.not_le, Bool.true_eq, Bool.false_eq, reduceCtorEq] at c99
                              refine gl_un rfl rfl rfl rfl ?_
                              refine gl_op rfl rfl rfl (op_fieldB 5 rfl Tryd.underlying25 rfl el3 rfl rfl) ?_
                              refine gl_un rfl rfl rfl rfl ?_
                              refine gl_op rfl rfl rfl (op_loadB 0 hT hS rfl rfl rfl rfl rfl rfl) ?_
                              refine gl_un rfl rfl rfl rfl ?_
                              refine gl_op rfl rfl rfl (op_pure hT rfl) ?_
                              refine gl_op rfl rfl rfl (op_pure hT rfl) ?_
                              refine gl_op rfl rfl rfl (op_pure hT rfl) ?_
                              refine gl_split (t := 104) rfl (fun c104 => ?_) (fun c104 => ?_)
                              · try simp only [decide_eq_true_eq, decide_eq_false_iff_not, Bool.not_eq_true', Bool.not_eq_false', Int.not_lt, Int.not_le, Nat.not_lt, Nat.not_le, Bool.true_eq, Bool.false_eq, reduceCtorEq] at c104
                                refine gl_pass rfl rfl rfl rfl rfl rfl ?_
                                refine gl_pass rfl rfl rfl rfl rfl rfl ?_
                                refine gl_pass rfl rfl rfl rfl rfl rfl ?_
                                refine gl_op rfl rfl rfl (op_pure hT rfl) ?_
                                refine gl_op rfl rfl rfl (op_pure hT rfl) ?_
                                refine gl_pass rfl rfl rfl rfl rfl rfl ?_
                                refine gl_pass rfl rfl rfl rfl rfl rfl ?_
                                refine gl_pass rfl rfl rfl rfl rfl rfl ?_
                                refine gl_op rfl rfl rfl (op_pure hT rfl) ?_
                                refine gl_op rfl rfl rfl (op_pure hT rfl) ?_
                                refine gl_pass rfl rfl rfl rfl rfl rfl ?_
                                refine gl_pass rfl rfl rfl rfl rfl rfl ?_
                                refine gl_pass rfl rfl rfl rfl rfl rfl ?_
                                refine gl_op rfl rfl rfl (op_pure hT rfl) ?_
                                refine gl_nil ?_
                                refine hK44 _ _ ?_
                                clear hK44; try clear K44
                                refine gc_cond_t rfl ?_
                                refine gc_seq fun K47 hK47 => ?_
                                refine gc_region ?_
                                refine gl_op rfl rfl rfl (op_pure hT rfl) ?_
                                refine gl_op rfl rfl rfl (op_pure hT rfl) ?_
                                refine gl_nil ?_
                                refine hK47 _ _ ?_
                                clear hK47; try clear K47
                                refine gc_ret ?_
                                try simp only [x_then_ret, x_block_ret]
                                refine gk_ret2 rfl rfl rfl ?_
                                refine ⟨?_, hS.below⟩
                                rw [hR]
                                first
                                  | (rw [if_pos (by omega)] <;> rfl)
                                  | (rw [if_neg (by omega), if_pos (by omega)] <;> rfl)
                                  | (rw [if_neg (by omega), if_neg (by omega), if_pos (by omega)] <;> rfl)
                                  | (rw [if_neg (by omega), if_neg (by omega), if_neg (by omega), if_pos (by omega)] <;> rfl)
                                  | (rw [if_neg (by omega), if_neg (by omega), if_neg (by omega), if_neg (by omega), if_pos (by omega)] <;> rfl)
                                  | (rw [if_neg (by omega), if_neg (by omega), if_neg (by omega), if_neg (by omega), if_neg (by omega), if_pos (by omega)] <;> rfl)
                                  | (rw [if_neg (by omega), if_neg (by omega), if_neg (by omega), if_neg (by omega), if_neg (by omega), if_neg (by omega), if_pos (by omega)] <;> rfl)
                                  | (rw [if_neg (by omega), if_neg (by omega), if_neg (by omega), if_neg (by omega), if_neg (by omega), if_neg (by omega), if_neg (by omega), if_pos (by omega)] <;> rfl)
                                  | (rw [if_neg (by omega), if_neg (by omega), if_neg (by omega), if_neg (by omega), if_neg (by omega), if_neg (by omega), if_neg (by omega), if_neg (by omega), if_pos (by omega)] <;> rfl)
                                  | (rw [if_neg (by omega), if_neg (by omega), if_neg (by omega), if_neg (by omega), if_neg (by omega), if_neg (by omega), if_neg (by omega), if_neg (by omega), if_neg (by omega)] <;> rfl)
                                  | trace_state
                              · try simp only [decide_eq_true_eq, decide_eq_false_iff_not, Bool.not_eq_true', Bool.not_eq_false', Int.not_lt, Int.not_le, Nat.not_lt, Nat.not_le, Bool.true_eq, Bool.false_eq, reduceCtorEq] at c104
                                refine gl_un rfl rfl rfl rfl ?_
                                refine gl_op rfl rfl rfl (op_fieldB 5 rfl Tryd.underlying25 rfl el3 rfl rfl) ?_
                                refine gl_un rfl rfl rfl rfl ?_
                                refine gl_op rfl rfl rfl (op_loadB 0 hT hS rfl rfl rfl rfl rfl rfl) ?_
                                refine gl_un rfl rfl rfl rfl ?_
                                refine gl_op rfl rfl rfl (op_pure hT rfl) ?_
                                refine gl_op rfl rfl rfl (op_pure hT rfl) ?_
                                refine gl_op rfl rfl rfl (op_pure hT rfl) ?_
                                refine gl_split (t := 109) rfl (fun c109 => ?_) (fun c109 => ?_)
                                · try simp only [decide_eq_true_eq, decide_eq_false_iff_not, Bool.not_eq_true', Bool.not_eq_false', Int.not_lt, Int.not_le, Nat.not_lt, Nat.not_le, Bool.true_eq, Bool.false_eq, reduceCtorEq] at c109
                                  refine gl_pass rfl rfl rfl rfl rfl rfl ?_
                                  refine gl_pass rfl rfl rfl rfl rfl rfl ?_
                                  refine gl_pass rfl rfl rfl rfl rfl rfl ?_
                                  refine gl_op rfl rfl rfl (op_pure hT rfl) ?_
                                  refine gl_op rfl rfl rfl (op_pure hT rfl) ?_
                                  refine gl_pass rfl rfl rfl rfl rfl rfl ?_
                                  refine gl_pass rfl rfl rfl rfl rfl rfl ?_
                                  refine gl_pass rfl rfl rfl rfl rfl rfl ?_
                                  refine gl_op rfl rfl rfl (op_pure hT rfl) ?_
                                  refine gl_nil ?_
                                  refine hK44 _ _ ?_
                                  clear hK44; try clear K44
                                  refine gc_cond_t rfl ?_
                                  refine gc_seq fun K48 hK48 => ?_
                                  refine gc_region ?_
                                  refine gl_op rfl rfl rfl (op_pure hT rfl) ?_
                                  refine gl_op rfl rfl rfl (op_pure hT rfl) ?_
                                  refine gl_nil ?_
                                  refine hK48 _ _ ?_
                                  clear hK48; try clear K48
                                  refine gc_ret ?_
                                  try simp only [x_then_ret, x_block_ret]
                                  refine gk_ret2 rfl rfl rfl ?_
                                  refine ⟨?_, hS.below⟩
                                  rw [hR]
                                  first
                                    | (rw [if_pos (by omega)] <;> rfl)
                                    | (rw [if_neg (by omega), if_pos (by omega)] <;> rfl)
                                    | (rw [if_neg (by omega), if_neg (by omega), if_pos (by omega)] <;> rfl)
                                    | (rw [if_neg (by omega), if_neg (by omega), if_neg (by omega), if_pos (by omega)] <;> rfl)
                                    | (rw [if_neg (by omega), if_neg (by omega), if_neg (by omega), if_neg (by omega), if_pos (by omega)] <;> rfl)
                                    | (rw [if_neg (by omega), if_neg (by omega), if_neg (by omega), if_neg (by omega), if_neg (by omega), if_pos (by omega)] <;> rfl)
                                    | (rw [if_neg (by omega), if_neg (by omega), if_neg (by omega), if_neg (by omega), if_neg (by omega), if_neg (by omega), if_pos (by omega)] <;> rfl)
                                    | (rw [if_neg (by omega), if_neg (by omega), if_neg (by omega), if_neg (by omega), if_neg (by omega), if_neg (by omega), if_neg (by omega), if_pos (by omega)] <;> rfl)
                                    | (rw [if_neg (by omega), if_neg (by omega), if_neg (by omega), if_neg (by omega), if_neg (by omega), if_neg (by omega), if_neg (by omega), if_neg (by omega), if_pos (by omega)] <;> rfl)
                                    | (rw [if_neg (by omega), if_neg (by omega), if_neg (by omega), if_neg (by omega), if_neg (by omega), if_neg (by omega), if_neg (by omega), if_neg (by omega), if_neg (by omega)] <;> rfl)
                                    | trace_state
                                · try simp only [decide_eq_true_eq, decide_eq_false_iff_not, Bool.not_eq_true', Bool.not_eq_false', Int.not_lt, Int.not_le, Nat.not_lt, Nat.not_le, Bool.true_eq, Bool.false_eq, reduceCtorEq] at c109
                                  refine gl_un rfl rfl rfl rfl ?_
                                  refine gl_op rfl rfl rfl (op_fieldB 6 rfl Tryd.underlying25 rfl el3 rfl rfl) ?_
                                  refine gl_un rfl rfl rfl rfl ?_
                                  refine gl_op rfl rfl rfl (op_loadB 0 hT hS rfl rfl rfl rfl rfl rfl) ?_
                                  refine gl_un rfl rfl rfl rfl ?_
                                  refine gl_op rfl rfl rfl (op_pure hT rfl) ?_
                                  refine gl_op rfl rfl rfl (op_pure hT rfl) ?_
                                  refine gl_op rfl rfl rfl (op_pure hT rfl) ?_
                                  refine gl_split (t := 114) rfl (fun c114 => ?_) (fun c114 => ?_)
                                  · try simp only [decide_eq_true_eq, decide_eq_false_iff_not, Bool.not_eq_true', Bool.not_eq_false', Int.not_lt, Int.not_le, Nat.not_lt, Nat.not_le, Bool.true_eq, Bool.false_eq, reduceCtorEq] at c114
                                    refine gl_pass rfl rfl rfl rfl rfl rfl ?_
                                    refine gl_pass rfl rfl rfl rfl rfl rfl ?_
                                    refine gl_pass rfl rfl rfl rfl rfl rfl ?_
                                    refine gl_op rfl rfl rfl (op_pure hT rfl) ?_
                                    refine gl_nil ?_
                                    refine hK44 _ _ ?_
                                    clear hK44; try clear K44
                                    refine gc_cond_t rfl ?_
                                    refine gc_seq fun K49 hK49 => ?_
                                    refine gc_region ?_
                                    refine gl_op rfl rfl rfl (op_pure hT rfl) ?_
                                    refine gl_op rfl rfl rfl (op_pure hT rfl) ?_
                                    refine gl_nil ?_
                                    refine hK49 _ _ ?_
                                    clear hK49; try clear K49
                                    refine gc_ret ?_
                                    try simp only [x_then_ret, x_block_ret]
                                    refine gk_ret2 rfl rfl rfl ?_
                                    refine ⟨?_, hS.below⟩
                                    rw [hR]
                                    first
                                      | (rw [if_pos (by omega)] <;> rfl)
                                      | (rw [if_neg (by omega), if_pos (by omega)] <;> rfl)
                                      | (rw [if_neg (by omega), if_neg (by omega), if_pos (by omega)] <;> rfl)
                                      | (rw [if_neg (by omega), if_neg (by omega), if_neg (by omega), if_pos (by omega)] <;> rfl)
                                      | (rw [if_neg (by omega), if_neg (by omega), if_neg (by omega), if_neg (by omega), if_pos (by omega)] <;> rfl)
                                      | (rw [if_neg (by omega), if_neg (by omega), if_neg (by omega), if_neg (by omega), if_neg (by omega), if_pos (by omega)] <;> rfl)
                                      | (rw [if_neg (by omega), if_neg (by omega), if_neg (by omega), if_neg (by omega), if_neg (by omega), if_neg (by omega), if_pos (by omega)] <;> rfl)
                                      | (rw [if_neg (by omega), if_neg (by omega), if_neg (by omega), if_neg (by omega), if_neg (by omega), if_neg (by omega), if_neg (by omega), if_pos (by omega)] <;> rfl)
                                      | (rw [if_neg (by omega), if_neg (by omega), if_neg (by omega), if_neg (by omega), if_neg (by omega), if_neg (by omega), if_neg (by omega), if_neg (by omega), if_pos (by omega)] <;> rfl)
                                      | (rw [if_neg (by omega), if_neg (by omega), if_neg (by omega), if_neg (by omega), if_neg (by omega), if_neg (by omega), if_neg (by omega), if_neg (by omega), if_neg (by omega)] <;> rfl)
                                      | trace_state
                                  · try simp only [decide_eq_true_eq, decide_eq_false_iff_not, Bool.not_eq_true', Bool.not_eq_false', Int.not_lt, Int.not_le, Nat.not_lt, Nat.not_le, Bool.true_eq, Bool.false_eq, reduceCtorEq] at c114
                                    refine gl_un rfl rfl rfl rfl ?_
                                    refine gl_op rfl rfl rfl (op_fieldB 6 rfl Tryd.underlying25 rfl el3 rfl rfl) ?_
                                    refine gl_un rfl rfl rfl rfl ?_
                                    refine gl_op rfl rfl rfl (op_loadB 0 hT hS rfl rfl rfl rfl rfl rfl) ?_
                                    refine gl_un rfl rfl rfl rfl ?_
                                    refine gl_op rfl rfl rfl (op_pure hT rfl) ?_
                                    refine gl_op rfl rfl rfl (op_pure hT rfl) ?_
                                    refine gl_nil ?_
                                    refine hK44 _ _ ?_
                                    clear hK44; try clear K44
                                    refine gc_cond rfl rfl (fun c118 => ?_) (fun c118 => ?_)
                                    · try simp only [decide_eq_true_eq, decide_eq_false_iff_not, Bool.not_eq_true', Bool.not_eq_false', Int.not_lt, Int.not_le, Nat.not_lt, Nat.not_le, Bool.true_eq, Bool.false_eq, reduceCtorEq] at c118
                                      refine gc_seq fun K50 hK50 => ?_
                                      refine gc_region ?_
                                      refine gl_op rfl rfl rfl (op_pure hT rfl) ?_
                                      refine gl_op rfl rfl rfl (op_pure hT rfl) ?_
                                      refine gl_nil ?_
                                      refine hK50 _ _ ?_
                                      clear hK50; try clear K50
                                      refine gc_ret ?_
                                      try simp only [x_then_ret, x_block_ret]
                                      refine gk_ret2 rfl rfl rfl ?_
                                      refine ⟨?_, hS.below⟩
                                      rw [hR]
                                      first
                                        | (rw [if_pos (by omega)] <;> rfl)
                                        | (rw [if_neg (by omega), if_pos (by omega)] <;> rfl)
                                        | (rw [if_neg (by omega), if_neg (by omega), if_pos (by omega)] <;> rfl)
                                        | (rw [if_neg (by omega), if_neg (by omega), if_neg (by omega), if_pos (by omega)] <;> rfl)
                                        | (rw [if_neg (by omega), if_neg (by omega), if_neg (by omega), if_neg (by omega), if_pos (by omega)] <;> rfl)
                                        | (rw [if_neg (by omega), if_neg (by omega), if_neg (by omega), if_neg (by omega), if_neg (by omega), if_pos (by omega)] <;> rfl)
                                        | (rw [if_neg (by omega), if_neg (by omega), if_neg (by omega), if_neg (by omega), if_neg (by omega), if_neg (by omega), if_pos (by omega)] <;> rfl)
                                        | (rw [if_neg (by omega), if_neg (by omega), if_neg (by omega), if_neg (by omega), if_neg (by omega), if_neg (by omega), if_neg (by omega), if_pos (by omega)] <;> rfl)
                                        | (rw [if_neg (by omega), if_neg (by omega), if_neg (by omega), if_neg (by omega), if_neg (by omega), if_neg (by omega), if_neg (by omega), if_neg (by omega), if_pos (by omega)] <;> rfl)
                                        | (rw [if_neg (by omega), if_neg (by omega), if_neg (by omega), if_neg (by omega), if_neg (by omega), if_neg (by omega), if_neg (by omega), if_neg (by omega), if_neg (by omega)] <;> rfl)
                                        | trace_state
                                    · try simp only [decide_eq_true_eq, decide_eq_false_iff_not, Bool.not_eq_true', Bool.not_eq_false', Int.not_lt, Int.not_le, Nat.not_lt, Nat.not_le, Bool.true_eq, Bool.false_eq, reduceCtorEq] at c118
                                      refine gc_skip ?_
                                      refine hK43 _ _ ?_
                                      clear hK43; try clear K43
                                      refine gc_seq fun K51 hK51 => ?_
                                      refine gc_region ?_
                                      refine gl_op rfl rfl rfl (op_pure hT rfl) ?_
                                      refine gl_op rfl rfl rfl (op_pure hT rfl) ?_
                                      refine gl_nil ?_
                                      refine hK51 _ _ ?_
                                      clear hK51; try clear K51
                                      refine gc_ret ?_
                                      try simp only [x_then_ret, x_block_ret]
                                      refine gk_ret2 rfl rfl rfl ?_
                                      refine ⟨?_, hS.below⟩
                                      rw [hR]
                                      first
                                        | (rw [if_pos (by omega)] <;> rfl)
                                        | (rw [if_neg (by omega), if_pos (by omega)] <;> rfl)
                                        | (rw [if_neg (by omega), if_neg (by omega), if_pos (by omega)] <;> rfl)
                                        | (rw [if_neg (by omega), if_neg (by omega), if_neg (by omega), if_pos (by omega)] <;> rfl)
                                        | (rw [if_neg (by omega), if_neg (by omega), if_neg (by omega), if_neg (by omega), if_pos (by omega)] <;> rfl)
                                        | (rw [if_neg (by omega), if_neg (by omega), if_neg (by omega), if_neg (by omega), if_neg (by omega), if_pos (by omega)] <;> rfl)
                                        | (rw [if_neg (by omega), if_neg (by omega), if_neg (by omega), if_neg (by omega), if_neg (by omega), if_neg (by omega), if_pos (by omega)] <;> rfl)
                                        | (rw [if_neg (by omega), if_neg (by omega), if_neg (by omega), if_neg (by omega), if_neg (by omega), if_neg (by omega), if_neg (by omega), if_pos (by omega)] <;> rfl)
                                        | (rw [if_neg (by omega), if_neg (by omega), if_neg (by omega), if_neg (by omega), if_neg (by omega), if_neg (by omega), if_neg (by omega), if_neg (by omega), if_pos (by omega)] <;> rfl)
                                        | (rw [if_neg (by omega), if_neg (by omega), if_neg (by omega), if_neg (by omega), if_neg (by omega), if_neg (by omega), if_neg (by omega), if_neg (by omega), if_neg (by omega)] <;> rfl)
                                        | trace_state
end Go.Proofs.YtnomlloaahoceaaDoor

