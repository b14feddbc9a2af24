/- Contracts of functions that CodeProps reaches, and words to say them. No condition. -/
import Derived.Test.YtnomlloaahoceaaDoorZ10
import Derived.Test.YtnomlloaahoceaaDoorZ02
import Derived.Test.YtnomlloaahoceaaDoorZ12
/- Our own words: made memory as one block, orders of items, a comparison of bits. Nothing here speaks of a statement; no condition. -/
namespace Go.Proofs.YtnomlloaahoceaaDoor
open Go.RowKit
set_option linter.unusedVariables false
set_option linter.unusedSimpArgs false
section
variable {P : Program} {N : Nt} {e : Env} {Q : Exit → Act → World → Prop} {w w0 : World} {T : TyTab} {B : Nat} {L : List It}
theorem St.permute {L' : List It} (h : St B w0 w L) (hp : L.Perm L') : St B w0 w L' :=
  ⟨h.1, fun it hi => h.2.1 it (hp.mem_iff.2 hi), hp.pairwise h.2.2 fun {x y} hxy b hb hb2 => hxy b hb2 hb⟩
theorem p_bac {α : Type} (a b c : α) : List.Perm [b, a, c] [a, b, c] := .swap ..
theorem p_acb {α : Type} (a b c : α) : List.Perm [a, c, b] [a, b, c] := .cons _ (.swap ..)
theorem p_bca {α : Type} (a b c : α) : List.Perm [b, c, a] [a, b, c] := .trans (.cons _ (.swap ..)) (.swap ..)
theorem p_cab {α : Type} (a b c : α) : List.Perm [c, a, b] [a, b, c] := .trans (.swap ..) (.cons _ (.swap ..))
theorem p_cba {α : Type} (a b c : α) : List.Perm [c, b, a] [a, b, c] := .trans (.cons _ (.swap ..)) (p_cab ..)
end
end Go.Proofs.YtnomlloaahoceaaDoor


/- Contracts of the document's own CheckProp. No condition. -/
namespace Go.Proofs.YtnomlloaahoceaaDoor
open Go.RowKit
set_option linter.unusedVariables false
set_option linter.unusedSimpArgs false
@[reducible] def uV (u : Nat) : Value := .int .u64 (u : Nat)
theorem rNumber_calls (u : Nat) (hu : u < 18446744073709551616) (w : World) : Calls Tryd.prog 94 ⟨[.int .u64 (u : Nat)]⟩ w fun e w' => e = .returned (.bool (nmB u)) ∧ Eqv w w' := by
  refine gc_enter (N := 7) Tryd.func94 rfl rfl rfl [(0, _)] rfl ?_
  refine gc_seq fun K1 hK1 => ?_
  refine gc_region ?_
  refine gl_op rfl rfl rfl (op_pure hT rfl) ?_
  refine gl_nil ?_
  refine hK1 _ _ ?_
  clear hK1; try clear K1
  refine gc_seq fun K2 hK2 => ?_
  refine gc_region ?_
  refine gl_op rfl rfl rfl (op_pure hT rfl) ?_
  refine gl_op rfl rfl rfl (op_pure hT rfl) ?_
  have e1 : (u : Int) / 2 ^ 52 = ((u / 4503599627370496 : Nat) : Int) := by omega
  refine gl_op rfl rfl rfl (op_pure hT rfl) ?_
  refine gl_spell 5 (v := .int .u64 ((u / 4503599627370496 % 2048 : Nat) : Int)) rfl ?_ ?_
  · show Value.int .u64 (bits .and .u64 ((u : Int) / 2 ^ 52) 2047) = _
    rw [e1, mu64_and2047 _ (by omega)]
  refine gl_op rfl rfl rfl (op_pure hT rfl) ?_
  refine gl_op rfl rfl rfl (op_pure hT rfl) ?_
  refine gl_nil ?_
  refine hK2 _ _ ?_
  clear hK2; try clear K2
  refine gc_ret ?_
  try simp only [x_then_ret, x_block_ret]
  refine gk_ret1 rfl rfl ?_
  exact ⟨by unfold nmB; congr 3; rw [Bool.eq_iff_iff]; simp; omega, Eqv.refl _⟩
theorem rNumbers_calls (A : Option Addr) (n c : Nat) (l : List Nat) (w : World) {ok : Nat → Prop} (h1 : RdE w ok uV A l) (hn : n = l.length) (hl : l.length ≤ 17592186044416) (hf : ∀ u ∈ l, u < 18446744073709551616) :
    Calls Tryd.prog 84 ⟨[.slice A n c]⟩ w fun e w' => e = .returned (.bool (numsV l)) ∧ Eqv w w' := by
  subst hn
  refine gc_enter (N := 16) Tryd.func84 rfl rfl rfl [(0, _)] rfl ?_
  refine gc_seq fun K1 hK1 => ?_
  refine gc_region ?_
  refine gl_op rfl rfl rfl (op_pure hT rfl) ?_
  refine gl_nil ?_
  refine hK1 _ _ ?_
  clear hK1; try clear K1
  refine gc_seq fun K2 hK2 => ?_
  refine gc_seq fun K3 hK3 => ?_
  refine gc_region ?_
  refine gl_op rfl rfl rfl (op_pure hT rfl) ?_
  refine gl_nil ?_
  refine hK3 _ _ ?_
  clear hK3; try clear K3
  refine gc_block ?_
  refine gc_loop (fun k a w' => ∃ i : Nat, Fr 16 a [(0, .slice A l.length c), (3, .int .i64 (i : Nat))] ∧ i ≤ l.length ∧ k = l.length - i + 1 ∧ numsV (l.take i) = true ∧ Eqv w w') (l.length + 1) ?_ ?_ ?_
  · intro a ha; exact ⟨0, ha.sub ⟨rfl, rfl, trivial⟩, by omega, by omega, rfl, Eqv.refl _⟩
  · rintro a w ⟨i, _, h1, h2, _⟩; omega
  rintro k a _ ⟨i, hF, hi, hk, hj, n, rfl⟩
  refine gc_of hF ?_
  refine gc_seq fun K4 hK4 => ?_
  refine gc_seq fun K5 hK5 => ?_
  refine gc_region ?_
  refine gl_op rfl rfl rfl (op_pure hT rfl) ?_
  refine gl_op rfl rfl rfl (op_pure hT rfl) ?_
  refine gl_op rfl rfl rfl (op_pure hT rfl) ?_
  refine gl_op rfl rfl rfl (op_pure hT rfl) ?_
  refine gl_nil ?_
  refine hK5 _ _ ?_
  clear hK5; try clear K5
  refine gc_cond rfl rfl (fun c7 => ?_) (fun c7 => ?_)
  · try simp only [decide_eq_true_eq, decide_eq_false_iff_not, Bool.not_eq_true', Bool.not_eq_false', Int.not_lt, Int.not_le, Nat.not_lt, Nat.not_le, Bool.true_eq, Bool.false_eq, reduceCtorEq] at c7
    refine gc_skip ?_
    refine hK4 _ _ ?_
    clear hK4; try clear K4
    refine gc_seq fun K6 hK6 => ?_
    refine gc_block ?_
    refine gc_seq fun K7 hK7 => ?_
    refine gc_region ?_
    refine gl_op rfl rfl rfl (op_pure hT rfl) ?_
    refine gl_op rfl rfl rfl (op_pure hT rfl) ?_
    have hil : i < l.length := by omega
    obtain ⟨u, hu⟩ : ∃ u, l[i]? = some u := ⟨_, List.getElem?_eq_getElem hil⟩
    have hum := List.mem_of_getElem? hu
    obtain ⟨ad, hA, hc⟩ := (h1.eqv ⟨n, rfl⟩).at 0 (i := (i : Int)) (by omega) (by omega)
    have hug : l.getD ((i : Int)).toNat 0 = u := by rw [Int.toNat_natCast, List.getD_eq_getElem?_getD, hu]; rfl
    rw [hug] at hc
    refine gl_op rfl rfl rfl (op_indexAddr hT rfl rfl el77.cellsOf.1 el77.cellsOf.2 rfl rfl (by omega) (by omega) hA) ?_
    refine gl_op rfl rfl rfl (op_load hT rfl rfl rfl rfl hc) ?_
    refine gl_callf rfl rfl rfl rfl Tryd.func94 rfl rfl rfl (rNumber_calls u (hf u hum) _) ?_
    rintro _ _ ⟨rfl, n14, rfl⟩
    refine ⟨_, rfl, ?_⟩
    refine gl_op rfl rfl rfl (op_pure hT rfl) ?_
    refine gl_nil ?_
    refine hK7 _ _ ?_
    clear hK7; try clear K7
    refine gc_cond rfl rfl (fun c15 => ?_) (fun c15 => ?_)
    · try simp only [decide_eq_true_eq, decide_eq_false_iff_not, Bool.not_eq_true', Bool.not_eq_false', Int.not_lt, Int.not_le, Nat.not_lt, Nat.not_le, Bool.true_eq, Bool.false_eq, reduceCtorEq] at c15
      refine gc_seq fun K8 hK8 => ?_
      refine gc_region ?_
      refine gl_op rfl rfl rfl (op_pure hT rfl) ?_
      refine gl_nil ?_
      refine hK8 _ _ ?_
      clear hK8; try clear K8
      refine gc_ret ?_
      try simp only [x_then_ret, x_block_ret]
      refine gk_ret1 rfl rfl ?_
      exact ⟨by rw [numsV_no hum c15], Eqv.trans ⟨n, rfl⟩ ⟨_, rfl⟩⟩
    · try simp only [decide_eq_true_eq, decide_eq_false_iff_not, Bool.not_eq_true', Bool.not_eq_false', Int.not_lt, Int.not_le, Nat.not_lt, Nat.not_le, Bool.true_eq, Bool.false_eq, reduceCtorEq] at c15
      refine gc_skip ?_
      refine hK6 _ _ ?_
      clear hK6; try clear K6
      refine gc_region ?_
      refine gl_op rfl rfl rfl (op_pure hT rfl) ?_
      first | refine gl_fit hT rfl rfl rfl rfl (by omega) ?_ | refine gl_op rfl rfl rfl (op_pure hT rfl) ?_
      refine gl_op rfl rfl rfl (op_pure hT rfl) ?_
      refine gl_nil ?_
      intro a ha
      exact ⟨i + 1, ha.sub ⟨rfl, rfl, trivial⟩, by omega, by omega, by rw [numsV_at hu, hj, c15]; rfl, Eqv.trans ⟨n, rfl⟩ ⟨_, rfl⟩⟩
  · try simp only [decide_eq_true_eq, decide_eq_false_iff_not, Bool.not_eq_true', Bool.not_eq_false', Int.not_lt, Int.not_le, Nat.not_lt, Nat.not_le, Bool.true_eq, Bool.false_eq, reduceCtorEq] at c7
    refine gc_exit ?_
    refine hK2 _ _ ?_
    clear hK2; try clear K2
    refine gc_seq fun K9 hK9 => ?_
    refine gc_region ?_
    refine gl_op rfl rfl rfl (op_pure hT rfl) ?_
    refine gl_nil ?_
    refine hK9 _ _ ?_
    clear hK9; try clear K9
    refine gc_ret ?_
    try simp only [x_then_ret, x_block_ret]
    refine gk_ret1 rfl rfl ?_
    have hie : l.take i = l := List.take_of_length_le (by omega)
    rw [hie] at hj
    exact ⟨by rw [hj], ⟨n, rfl⟩⟩
theorem rList_calls (A : Option Addr) (m c : Nat) (l : List Nat) (n : Int) (w : World) {ok : Nat → Prop} (h1 : RdE w ok uV A l) (hn : m = l.length) (hl : l.length ≤ 17592186044416) (hf : ∀ u ∈ l, u < 18446744073709551616) :
    Calls Tryd.prog 68 ⟨[.slice A m c, .int .i64 n]⟩ w fun e w' => e = .returned (.int .i64 (listV l n)) ∧ Eqv w w' := by
  subst hn
  refine gc_enter (N := 12) Tryd.func68 rfl rfl rfl [(0, _), (1, _)] rfl ?_
  have hS := St.start w
  refine gc_seq fun K1 hK1 => ?_
  refine gc_region ?_
  refine gl_op rfl rfl rfl (op_pure hT rfl) ?_
  refine gl_nil ?_
  refine hK1 _ _ ?_
  clear hK1; try clear K1
  refine gc_seq fun K2 hK2 => ?_
  refine gc_seq fun K3 hK3 => ?_
  refine gc_region ?_
  refine gl_op rfl rfl rfl (op_pure hT rfl) ?_
  refine gl_op rfl rfl rfl (op_pure hT rfl) ?_
  refine gl_op rfl rfl rfl (op_pure hT rfl) ?_
  refine gl_op rfl rfl rfl (op_pure hT rfl) ?_
  refine gl_nil ?_
  refine hK3 _ _ ?_
  clear hK3; try clear K3
  refine gc_cond rfl rfl (fun c8 => ?_) (fun c8 => ?_)
  · try simp only [decide_eq_true_eq, decide_eq_false_iff_not, Bool.not_eq_true', Bool.not_eq_false', Int.not_lt, Int.not_le, Nat.not_lt, Nat.not_le, Bool.true_eq, Bool.false_eq, reduceCtorEq] at c8
    refine gc_seq fun K4 hK4 => ?_
    refine gc_region ?_
    refine gl_op rfl rfl rfl (op_pure hT rfl) ?_
    refine gl_nil ?_
    refine hK4 _ _ ?_
    clear hK4; try clear K4
    refine gc_ret ?_
    try simp only [x_then_ret, x_block_ret]
    refine gk_ret1 rfl rfl ?_
    exact ⟨by unfold listV; rw [if_pos c8], Eqv.refl _⟩
  · try simp only [decide_eq_true_eq, decide_eq_false_iff_not, Bool.not_eq_true', Bool.not_eq_false', Int.not_lt, Int.not_le, Nat.not_lt, Nat.not_le, Bool.true_eq, Bool.false_eq, reduceCtorEq] at c8
    refine gc_skip ?_
    refine hK2 _ _ ?_
    clear hK2; try clear K2
    refine gc_seq fun K5 hK5 => ?_
    refine gc_seq fun K6 hK6 => ?_
    refine gc_region ?_
    refine gl_op rfl rfl rfl (op_pure hT rfl) ?_
    refine gl_callf rfl rfl rfl rfl Tryd.func84 rfl rfl rfl (rNumbers_calls _ _ _ l _ (h1.old hS) rfl hl hf) ?_
    rintro _ _ ⟨rfl, n10, rfl⟩
    refine ⟨_, rfl, ?_⟩
    have hS := hS.dr n10
    refine gl_op rfl rfl rfl (op_pure hT rfl) ?_
    refine gl_nil ?_
    refine hK6 _ _ ?_
    clear hK6; try clear K6
    refine gc_cond rfl rfl (fun c11 => ?_) (fun c11 => ?_)
    · try simp only [decide_eq_true_eq, decide_eq_false_iff_not, Bool.not_eq_true', Bool.not_eq_false', Int.not_lt, Int.not_le, Nat.not_lt, Nat.not_le, Bool.true_eq, Bool.false_eq, reduceCtorEq] at c11
      refine gc_seq fun K7 hK7 => ?_
      refine gc_region ?_
      refine gl_op rfl rfl rfl (op_pure hT rfl) ?_
      refine gl_nil ?_
      refine hK7 _ _ ?_
      clear hK7; try clear K7
      refine gc_ret ?_
      try simp only [x_then_ret, x_block_ret]
      refine gk_ret1 rfl rfl ?_
      exact ⟨by unfold listV; rw [if_neg (by omega), if_pos c11], ⟨_, rfl⟩⟩
    · try simp only [decide_eq_true_eq, decide_eq_false_iff_not, Bool.not_eq_true', Bool.not_eq_false', Int.not_lt, Int.not_le, Nat.not_lt, Nat.not_le, Bool.true_eq, Bool.false_eq, reduceCtorEq] at c11
      refine gc_skip ?_
      refine hK5 _ _ ?_
      clear hK5; try clear K5
      refine gc_seq fun K8 hK8 => ?_
      refine gc_region ?_
      refine gl_op rfl rfl rfl (op_pure hT rfl) ?_
      refine gl_nil ?_
      refine hK8 _ _ ?_
      clear hK8; try clear K8
      refine gc_ret ?_
      try simp only [x_then_ret, x_block_ret]
      refine gk_ret1 rfl rfl ?_
      exact ⟨by unfold listV; rw [if_neg (by omega), if_neg (by rw [c11]; simp)], ⟨_, rfl⟩⟩
theorem rWithin_calls (n lo hi : Int) (w : World) : Calls Tryd.prog 67 ⟨[.int .i64 n, .int .i64 lo, .int .i64 hi]⟩ w fun e w' => e = .returned (.bool (decide (lo ≤ n ∧ n ≤ hi))) ∧ Eqv w w' := by
  refine gc_enter (N := 15) Tryd.func67 rfl rfl rfl [(0, _), (1, _), (2, _)] rfl ?_
  refine gc_seq fun K1 hK1 => ?_
  refine gc_region ?_
  refine gl_op rfl rfl rfl (op_pure hT rfl) ?_
  refine gl_nil ?_
  refine hK1 _ _ ?_
  clear hK1; try clear K1
  refine gc_seq fun K2 hK2 => ?_
  refine gc_region ?_
  refine gl_op rfl rfl rfl (op_pure hT rfl) ?_
  refine gl_op rfl rfl rfl (op_pure hT rfl) ?_
  refine gl_op rfl rfl rfl (op_pure hT rfl) ?_
  refine gl_op rfl rfl rfl (op_pure hT rfl) ?_
  refine gl_split (t := 10) rfl (fun c10 => ?_) (fun c10 => ?_)
  · try simp only [decide_eq_true_eq, decide_eq_false_iff_not, Bool.not_eq_true', Bool.not_eq_false', Int.not_lt, Int.not_le, Nat.not_lt, Nat.not_le, Bool.true_eq, Bool.false_eq, reduceCtorEq] at c10
    refine gl_un rfl rfl rfl rfl ?_
    refine gl_op rfl rfl rfl (op_pure hT rfl) ?_
    refine gl_un rfl rfl rfl rfl ?_
    refine gl_op rfl rfl rfl (op_pure hT rfl) ?_
    refine gl_un rfl rfl rfl rfl ?_
    refine gl_op rfl rfl rfl (op_pure hT rfl) ?_
    refine gl_op rfl rfl rfl (op_pure hT rfl) ?_
    refine gl_op rfl rfl rfl (op_pure hT rfl) ?_
    refine gl_nil ?_
    refine hK2 _ _ ?_
    clear hK2; try clear K2
    refine gc_ret ?_
    try simp only [x_then_ret, x_block_ret]
    refine gk_ret1 rfl rfl ?_
    first
      | exact ⟨by rw [decide_eq_false (show ¬ (lo ≤ n ∧ n ≤ hi) by omega)], Eqv.refl _⟩
      | exact ⟨congrArg (fun b => Ending.returned (Value.bool b)) (decide_eq_decide.2 (by omega)), Eqv.refl _⟩
  · try simp only [decide_eq_true_eq, decide_eq_false_iff_not, Bool.not_eq_true', Bool.not_eq_false', Int.not_lt, Int.not_le, Nat.not_lt, Nat.not_le, Bool.true_eq, Bool.false_eq, reduceCtorEq] at c10
    refine gl_pass rfl rfl rfl rfl rfl rfl ?_
    refine gl_pass rfl rfl rfl rfl rfl rfl ?_
    refine gl_pass rfl rfl rfl rfl rfl rfl ?_
    refine gl_op rfl rfl rfl (op_pure hT rfl) ?_
    refine gl_op rfl rfl rfl (op_pure hT rfl) ?_
    refine gl_nil ?_
    refine hK2 _ _ ?_
    clear hK2; try clear K2
    refine gc_ret ?_
    try simp only [x_then_ret, x_block_ret]
    refine gk_ret1 rfl rfl ?_
    first
      | exact ⟨by rw [decide_eq_false (show ¬ (lo ≤ n ∧ n ≤ hi) by omega)], Eqv.refl _⟩
      | exact ⟨congrArg (fun b => Ending.returned (Value.bool b)) (decide_eq_decide.2 (by omega)), Eqv.refl _⟩
structure LsU (w : World) (ok : Nat → Prop) (A : Option Addr) (S : List Sv) (ls : List (List Nat)) : Prop where
  rS : RdE w ok svV A S
  len : S.length = ls.length
  rd : ∀ (i : Nat) x l, S[i]? = some x → ls[i]? = some l → RdE w ok uV x.1 l ∧ x.2.1 = l.length ∧ l.length ≤ 17592186044416 ∧ ∀ u ∈ l, u < 18446744073709551616
theorem LsU.old {w w' : World} {ok : Nat → Prop} {A : Option Addr} {S : List Sv} {ls : List (List Nat)} {L0 : List It} (h : LsU w ok A S ls) (hS : St w.heap.size w w' L0) : LsU w' ok A S ls :=
  ⟨h.rS.old hS, h.len, fun i x l h1 h2 => ⟨(h.rd i x l h1 h2).1.old hS, (h.rd i x l h1 h2).2⟩⟩
structure PrU (w : World) (ok : Nat → Prop) (C G M : Sv) (SG SM : List Sv) (p : Px) : Prop where
  rC : RdE w ok uV C.1 p.C
  nC : C.2.1 = p.C.length
  lC : p.C.length ≤ 17592186044416
  fC : ∀ u ∈ p.C, u < 18446744073709551616
  rG : LsU w ok G.1 SG p.G
  nG : G.2.1 = p.G.length
  lG : p.G.length ≤ 17592186044416
  rM : LsU w ok M.1 SM p.M
  nM : M.2.1 = p.M.length
  lM : p.M.length ≤ 17592186044416
  iT : i64 p.T
  iK : i64 p.K
  iD : i64 p.D
  iS : i64 p.S
set_option maxRecDepth 100000 in
theorem rCheckProp_calls (C G M : Sv) (SG SM : List Sv) (p : Px) (n out : Int) (w : World) {ok : Nat → Prop} (D : PrU w ok C G M SG SM p) (ho : i64 out) :
    Calls Tryd.prog 33 ⟨[.agg ⟨propC C G M p⟩, .int .i64 n, .int .i64 out]⟩ w fun e w' => e = .returned (.tuple #[.int .i64 (propV p n out).1, .int .i64 (propV p n out).2]) ∧ Below w.heap.size w w' := by
  obtain ⟨G1, G2, G3⟩ := G
  obtain ⟨M1, M2, M3⟩ := M
  have hnC := D.nC
  have hnG := D.nG
  have hnM := D.nM
  have hlG := D.lG
  have hlM := D.lM
  have hGl := D.rG.len
  have hMl := D.rM.len
  simp only at hnG hnM
  subst hnG
  subst hnM
  obtain ⟨R, hR⟩ : ∃ R, R = propV p n out := ⟨_, rfl⟩
  rw [← hR]
  unfold propV at hR
  refine gc_enter (N := 116) Tryd.func33 rfl rfl rfl [(0, _), (1, _), (2, _)] rfl ?_
  have hS := St.start w
  refine gc_seq fun K1 hK1 => ?_
  refine gc_region ?_
  refine gl_box hS rfl rfl rfl rfl rfl fun g3 w3 hS => ?_
  refine gl_op rfl rfl rfl (op_pure hT rfl) ?_
  refine gl_op rfl rfl rfl (op_pure hT rfl) ?_
  refine gl_nil ?_
  refine hK1 _ _ ?_
  clear hK1; try clear K1
  refine gc_seq fun K2 hK2 => ?_
  refine gc_seq fun K3 hK3 => ?_
  refine gc_region ?_
  refine gl_op rfl rfl rfl (op_pure hT rfl) ?_
  refine gl_callf rfl rfl rfl rfl Tryd.func67 rfl rfl rfl (rWithin_calls n 1 256 _) ?_
  rintro _ _ ⟨rfl, n12, rfl⟩
  refine ⟨_, rfl, ?_⟩
  have hS := hS.dr n12
  refine gl_op rfl rfl rfl (op_pure hT rfl) ?_
  refine gl_op rfl rfl rfl (op_pure hT rfl) ?_
  refine gl_split (t := 14) rfl (fun c14 => ?_) (fun c14 => ?_)
  · try simp only [decide_eq_true_eq, decide_eq_false_iff_not, Bool.not_eq_true', Bool.not_eq_false', Int.not_lt, Int.not_le, Nat.not_lt, Nat.not_le, Bool.true_eq, Bool.false_eq, reduceCtorEq] at c14
    refine gl_pass rfl rfl rfl rfl rfl rfl ?_
    refine gl_pass rfl rfl rfl rfl rfl rfl ?_
    refine gl_pass rfl rfl rfl rfl rfl rfl ?_
    refine gl_op rfl rfl rfl (op_pure hT rfl) ?_
    refine gl_nil ?_
    refine hK3 _ _ ?_
    clear hK3; try clear K3
    refine gc_cond_t rfl ?_
    refine gc_seq fun K4 hK4 => ?_
    refine gc_region ?_
    refine gl_op rfl rfl rfl (op_pure hT rfl) ?_
    refine gl_op rfl rfl rfl (op_pure hT rfl) ?_
    refine gl_nil ?_
    refine hK4 _ _ ?_
    clear hK4; try clear K4
    refine gc_ret ?_
    try simp only [x_then_ret, x_block_ret]
    refine gk_ret2 rfl rfl rfl ?_
    refine ⟨?_, hS.below⟩
    rw [hR]
    first
      | done
      | (rw [if_pos (by omega)] <;> rfl)
      | (rw [if_neg (by omega), if_pos (by omega)] <;> rfl)
      | (rw [if_neg (by omega), if_neg (by omega)] <;> rfl)
      | (rw [show (1 : Int) + i + (p.G.length : Nat) = 1 + (p.G.length : Nat) + i by omega] <;> rfl)
      | trace_state
  · try simp only [decide_eq_true_eq, decide_eq_false_iff_not, Bool.not_eq_true', Bool.not_eq_false', Int.not_lt, Int.not_le, Nat.not_lt, Nat.not_le, Bool.true_eq, Bool.false_eq, reduceCtorEq] at c14
    refine gl_un rfl rfl rfl rfl ?_
    refine gl_op rfl rfl rfl (op_pure hT rfl) ?_
    refine gl_un rfl rfl rfl rfl ?_
    refine gl_callf rfl rfl rfl rfl Tryd.func67 rfl rfl rfl (rWithin_calls out 1 256 _) ?_
    rintro _ _ ⟨rfl, n16, rfl⟩
    refine ⟨_, rfl, ?_⟩
    have hS := hS.dr n16
    refine gl_un rfl rfl rfl rfl ?_
    refine gl_op rfl rfl rfl (op_pure hT rfl) ?_
    refine gl_op rfl rfl rfl (op_pure hT rfl) ?_
    refine gl_nil ?_
    refine hK3 _ _ ?_
    clear hK3; try clear K3
    refine gc_cond rfl rfl (fun c18 => ?_) (fun c18 => ?_)
    · try simp only [decide_eq_true_eq, decide_eq_false_iff_not, Bool.not_eq_true', Bool.not_eq_false', Int.not_lt, Int.not_le, Nat.not_lt, Nat.not_le, Bool.true_eq, Bool.false_eq, reduceCtorEq] at c18
      refine gc_seq fun K5 hK5 => ?_
      refine gc_region ?_
      refine gl_op rfl rfl rfl (op_pure hT rfl) ?_
      refine gl_op rfl rfl rfl (op_pure hT rfl) ?_
      refine gl_nil ?_
      refine hK5 _ _ ?_
      clear hK5; try clear K5
      refine gc_ret ?_
      try simp only [x_then_ret, x_block_ret]
      refine gk_ret2 rfl rfl rfl ?_
      refine ⟨?_, hS.below⟩
      rw [hR]
      first
        | done
        | (rw [if_pos (by omega)] <;> rfl)
        | (rw [if_neg (by omega), if_pos (by omega)] <;> rfl)
        | (rw [if_neg (by omega), if_neg (by omega)] <;> rfl)
        | (rw [show (1 : Int) + i + (p.G.length : Nat) = 1 + (p.G.length : Nat) + i by omega] <;> rfl)
        | trace_state
    · try simp only [decide_eq_true_eq, decide_eq_false_iff_not, Bool.not_eq_true', Bool.not_eq_false', Int.not_lt, Int.not_le, Nat.not_lt, Nat.not_le, Bool.true_eq, Bool.false_eq, reduceCtorEq] at c18
      refine gc_skip ?_
      refine hK2 _ _ ?_
      clear hK2; try clear K2
      refine gc_seq fun K6 hK6 => ?_
      refine gc_region ?_
      refine gl_op rfl rfl rfl (op_fieldB 0 rfl Tryd.underlying29 rfl el26 rfl rfl) ?_
      refine gl_op rfl rfl rfl (op_loadB 0 hT hS rfl rfl rfl rfl rfl rfl) ?_
      refine gl_op rfl rfl rfl (op_pure hT rfl) ?_
      refine gl_callf rfl rfl rfl rfl Tryd.func68 rfl rfl rfl (rList_calls _ _ _ p.C n _ (D.rC.old hS) D.nC D.lC D.fC) ?_
      rintro _ _ ⟨rfl, n22, rfl⟩
      refine ⟨_, rfl, ?_⟩
      have hS := hS.dr n22
      refine gl_op rfl rfl rfl (op_pure hT rfl) ?_
      refine gl_nil ?_
      refine hK6 _ _ ?_
      clear hK6; try clear K6
      refine gc_cut (fun a w' => ∃ e : Int, Fr 116 a [(1, .int .i64 n), (2, .int .i64 out), (3, .pointer (some ⟨g3, 0, none⟩)), (8, .int .i64 e)] ∧ (e = 0 ∧ listV p.C n = 0 ∧ p.G.length ≤ 256 ∨ e ≠ 0 ∧ R = (e, 0)) ∧
      St w.heap.size w w' [.blk g3 29 (propC C (G1, p.G.length, G3) (M1, p.M.length, M3) p)]) ?_ ?_
      · skip
        refine gc_seq fun K7 hK7 => ?_
        refine gc_region ?_
        refine gl_op rfl rfl rfl (op_pure hT rfl) ?_
        refine gl_op rfl rfl rfl (op_pure hT rfl) ?_
        refine gl_op rfl rfl rfl (op_pure hT rfl) ?_
        refine gl_split (t := 25) rfl (fun c25 => ?_) (fun c25 => ?_)
        · try simp only [decide_eq_true_eq, decide_eq_false_iff_not, Bool.not_eq_true', Bool.not_eq_false', Int.not_lt, Int.not_le, Nat.not_lt, Nat.not_le, Bool.true_eq, Bool.false_eq, reduceCtorEq] at c25
          refine gl_un rfl rfl rfl rfl ?_
          refine gl_op rfl rfl rfl (op_fieldB 1 rfl Tryd.underlying29 rfl el27 rfl rfl) ?_
          refine gl_un rfl rfl rfl rfl ?_
          refine gl_op rfl rfl rfl (op_loadB 0 hT hS rfl rfl rfl rfl rfl rfl) ?_
          refine gl_un rfl rfl rfl rfl ?_
          refine gl_op rfl rfl rfl (op_pure hT rfl) ?_
          refine gl_un rfl rfl rfl rfl ?_
          refine gl_op rfl rfl rfl (op_pure hT rfl) ?_
          refine gl_op rfl rfl rfl (op_pure hT rfl) ?_
          refine gl_nil ?_
          refine hK7 _ _ ?_
          clear hK7; try clear K7
          refine gc_cond rfl rfl (fun c30 => ?_) (fun c30 => ?_)
          · try simp only [decide_eq_true_eq, decide_eq_false_iff_not, Bool.not_eq_true', Bool.not_eq_false', Int.not_lt, Int.not_le, Nat.not_lt, Nat.not_le, Bool.true_eq, Bool.false_eq, reduceCtorEq] at c30
            refine gc_region ?_
            refine gl_op rfl rfl rfl (op_pure hT rfl) ?_
            refine gl_nil ?_
            intro a ha
            refine ⟨_, ha.sub ⟨rfl, rfl, rfl, rfl, trivial⟩, ?_, hS⟩
            rw [hR]
            rw [if_neg (by omega)]
            by_cases hc : listV p.C n = 0
            · rw [if_neg (by omega)]
              first
                | (rw [if_pos (by omega)]; right; exact ⟨by decide, rfl⟩)
                | (left; exact ⟨hc, hc, by omega⟩)
                | (exfalso; omega)
            · rw [if_pos hc]
              first
                | (right; exact ⟨hc, rfl⟩)
                | (exfalso; omega)
          · try simp only [decide_eq_true_eq, decide_eq_false_iff_not, Bool.not_eq_true', Bool.not_eq_false', Int.not_lt, Int.not_le, Nat.not_lt, Nat.not_le, Bool.true_eq, Bool.false_eq, reduceCtorEq] at c30
            refine gc_skip ?_
            intro a ha
            refine ⟨_, ha.sub ⟨rfl, rfl, rfl, rfl, trivial⟩, ?_, hS⟩
            rw [hR]
            rw [if_neg (by omega)]
            by_cases hc : listV p.C n = 0
            · rw [if_neg (by omega)]
              first
                | (rw [if_pos (by omega)]; right; exact ⟨by decide, rfl⟩)
                | (left; exact ⟨hc, hc, by omega⟩)
                | (exfalso; omega)
            · rw [if_pos hc]
              first
                | (right; exact ⟨hc, rfl⟩)
                | (exfalso; omega)
        · try simp only [decide_eq_true_eq, decide_eq_false_iff_not, Bool.not_eq_true', Bool.not_eq_false', Int.not_lt, Int.not_le, Nat.not_lt, Nat.not_le, Bool.true_eq, Bool.false_eq, reduceCtorEq] at c25
          refine gl_pass rfl rfl rfl rfl rfl rfl ?_
          refine gl_pass rfl rfl rfl rfl rfl rfl ?_
          refine gl_pass rfl rfl rfl rfl rfl rfl ?_
          refine gl_pass rfl rfl rfl rfl rfl rfl ?_
          refine gl_op rfl rfl rfl (op_pure hT rfl) ?_
          refine gl_nil ?_
          refine hK7 _ _ ?_
          clear hK7; try clear K7
          refine gc_cond_f rfl ?_
          refine gc_skip ?_
          intro a ha
          refine ⟨_, ha.sub ⟨rfl, rfl, rfl, rfl, trivial⟩, ?_, hS⟩
          rw [hR]
          rw [if_neg (by omega)]
          by_cases hc : listV p.C n = 0
          · rw [if_neg (by omega)]
            first
              | (rw [if_pos (by omega)]; right; exact ⟨by decide, rfl⟩)
              | (left; exact ⟨hc, hc, by omega⟩)
              | (exfalso; omega)
          · rw [if_pos hc]
            first
              | (right; exact ⟨hc, rfl⟩)
              | (exfalso; omega)
      rintro a w1 ⟨e, hF, he, hS⟩
      refine gc_of hF ?_
      clear hF
      refine gc_seq fun K8 hK8 => ?_
      refine gc_seq fun K9 hK9 => ?_
      refine gc_region ?_
      refine gl_op rfl rfl rfl (op_pure hT rfl) ?_
      refine gl_op rfl rfl rfl (op_pure hT rfl) ?_
      refine gl_nil ?_
      refine hK9 _ _ ?_
      clear hK9; try clear K9
      refine gc_cond rfl rfl (fun c32 => ?_) (fun c32 => ?_)
      · try simp only [decide_eq_true_eq, decide_eq_false_iff_not, Bool.not_eq_true', Bool.not_eq_false', Int.not_lt, Int.not_le, Nat.not_lt, Nat.not_le, Bool.true_eq, Bool.false_eq, reduceCtorEq] at c32
        have hR : R = (e, 0) := by
          rcases he with h | h
          · omega
          · exact h.2
        refine gc_seq fun K10 hK10 => ?_
        refine gc_region ?_
        refine gl_op rfl rfl rfl (op_pure hT rfl) ?_
        refine gl_op rfl rfl rfl (op_pure hT rfl) ?_
        refine gl_op rfl rfl rfl (op_pure hT rfl) ?_
        refine gl_nil ?_
        refine hK10 _ _ ?_
        clear hK10; try clear K10
        refine gc_ret ?_
        try simp only [x_then_ret, x_block_ret]
        refine gk_ret2 rfl rfl rfl ?_
        refine ⟨?_, hS.below⟩
        rw [hR]
        first
          | done
          | (rw [if_pos (by omega)] <;> rfl)
          | (rw [if_neg (by omega), if_pos (by omega)] <;> rfl)
          | (rw [if_neg (by omega), if_neg (by omega)] <;> rfl)
          | (rw [show (1 : Int) + i + (p.G.length : Nat) = 1 + (p.G.length : Nat) + i by omega] <;> rfl)
          | trace_state
      · try simp only [decide_eq_true_eq, decide_eq_false_iff_not, Bool.not_eq_true', Bool.not_eq_false', Int.not_lt, Int.not_le, Nat.not_lt, Nat.not_le, Bool.true_eq, Bool.false_eq, reduceCtorEq] at c32
        refine gc_skip ?_
        refine hK8 _ _ ?_
        clear hK8; try clear K8
        refine gc_seq fun K11 hK11 => ?_
        refine gc_seq fun K12 hK12 => ?_
        refine gc_region ?_
        refine gl_op rfl rfl rfl (op_pure hT rfl) ?_
        refine gl_nil ?_
        refine hK12 _ _ ?_
        clear hK12; try clear K12
        refine gc_block ?_
        have he : listV p.C n = 0 ∧ p.G.length ≤ 256 := by
          rcases he with h | h
          · exact h.2
          · omega
        rw [if_neg (by omega), if_neg (by omega), if_neg (by omega)] at hR
        refine gc_loop (fun k a w' => ∃ i : Nat, Fr 116 a [(1, .int .i64 n), (2, .int .i64 out), (3, .pointer (some ⟨g3, 0, none⟩)), (9, .int .i64 (i : Nat))] ∧ i ≤ p.G.length ∧ k = p.G.length - i + 1 ∧ listsGo n 1 p.G = listsGo n (1 + i) (p.G.drop i) ∧
          St w.heap.size w w' [.blk g3 29 (propC C (G1, p.G.length, G3) (M1, p.M.length, M3) p)]) (p.G.length + 1) ?_ ?_ ?_
        · intro a ha; exact ⟨0, ha.sub ⟨rfl, rfl, rfl, rfl, trivial⟩, by omega, by omega, by simp, hS⟩
        · rintro a w ⟨i, _, h1, h2, _⟩; omega
        rintro k a w1 ⟨i, hF, hi, hk, hj, hS⟩
        refine gc_of hF ?_
        clear hF
        refine gc_seq fun K13 hK13 => ?_
        refine gc_seq fun K14 hK14 => ?_
        refine gc_region ?_
        refine gl_op rfl rfl rfl (op_pure hT rfl) ?_
        refine gl_op rfl rfl rfl (op_fieldB 1 rfl Tryd.underlying29 rfl el27 rfl rfl) ?_
        refine gl_op rfl rfl rfl (op_loadB 0 hT hS rfl rfl rfl rfl rfl rfl) ?_
        refine gl_op rfl rfl rfl (op_pure hT rfl) ?_
        refine gl_op rfl rfl rfl (op_pure hT rfl) ?_
        refine gl_nil ?_
        refine hK14 _ _ ?_
        clear hK14; try clear K14
        refine gc_cond rfl rfl (fun c38 => ?_) (fun c38 => ?_)
        · try simp only [decide_eq_true_eq, decide_eq_false_iff_not, Bool.not_eq_true', Bool.not_eq_false', Int.not_lt, Int.not_le, Nat.not_lt, Nat.not_le, Bool.true_eq, Bool.false_eq, reduceCtorEq] at c38
          refine gc_skip ?_
          refine hK13 _ _ ?_
          clear hK13; try clear K13
          refine gc_seq fun K15 hK15 => ?_
          refine gc_block ?_
          refine gc_seq fun K16 hK16 => ?_
          refine gc_region ?_
          refine gl_op rfl rfl rfl (op_fieldB 1 rfl Tryd.underlying29 rfl el27 rfl rfl) ?_
          refine gl_op rfl rfl rfl (op_loadB 0 hT hS rfl rfl rfl rfl rfl rfl) ?_
          refine gl_op rfl rfl rfl (op_pure hT rfl) ?_
          have hil : i < p.G.length := by omega
          obtain ⟨l, hu⟩ : ∃ l, p.G[i]? = some l := ⟨_, List.getElem?_eq_getElem hil⟩
          obtain ⟨x, hx⟩ : ∃ x, SG[i]? = some x := ⟨_, List.getElem?_eq_getElem (by omega)⟩
          have hdrop : p.G.drop i = l :: p.G.drop (i + 1) := by
            rw [List.drop_eq_getElem_cons hil]
            have : p.G[i] = l := by rw [List.getElem?_eq_getElem hil] at hu; exact Option.some.inj hu
            rw [this]
          have hjl : listsGo n 1 p.G = if listV l n ≠ 0 then (listV l n, 1 + (i : Int)) else listsGo n (1 + i + 1) (p.G.drop (i + 1)) := by rw [hj, hdrop]; rfl
          obtain ⟨ad, hA, hc⟩ := (D.rG.rS.old hS).at (none, 0, 0) (i := (i : Int)) (by omega) (by omega)
          have hug : SG.getD ((i : Int)).toNat (none, 0, 0) = x := by rw [Int.toNat_natCast, List.getD_eq_getElem?_getD, hx]; rfl
          rw [hug] at hc
          refine gl_op rfl rfl rfl (op_indexAddr hT rfl rfl el26.cellsOf.1 el26.cellsOf.2 rfl rfl (by omega) (show (i : Int) < (p.G.length : Nat) by omega) hA) ?_
          refine gl_op rfl rfl rfl (op_load hT rfl rfl rfl rfl hc) ?_
          refine gl_op rfl rfl rfl (op_pure hT rfl) ?_
          refine gl_callf rfl rfl rfl rfl Tryd.func68 rfl rfl rfl (rList_calls _ _ _ l n _ ((D.rG.old hS).rd i x l hx hu).1 (D.rG.rd i x l hx hu).2.1 (D.rG.rd i x l hx hu).2.2.1 (D.rG.rd i x l hx hu).2.2.2) ?_
          rintro _ _ ⟨rfl, n47, rfl⟩
          refine ⟨_, rfl, ?_⟩
          have hS := hS.dr n47
          refine gl_op rfl rfl rfl (op_pure hT rfl) ?_
          refine gl_nil ?_
          refine hK16 _ _ ?_
          clear hK16; try clear K16
          refine gc_seq fun K17 hK17 => ?_
          refine gc_region ?_
          refine gl_op rfl rfl rfl (op_pure hT rfl) ?_
          refine gl_op rfl rfl rfl (op_pure hT rfl) ?_
          refine gl_nil ?_
          refine hK17 _ _ ?_
          clear hK17; try clear K17
          refine gc_cond rfl rfl (fun c49 => ?_) (fun c49 => ?_)
          · try simp only [decide_eq_true_eq, decide_eq_false_iff_not, Bool.not_eq_true', Bool.not_eq_false', Int.not_lt, Int.not_le, Nat.not_lt, Nat.not_le, Bool.true_eq, Bool.false_eq, reduceCtorEq] at c49
            rw [if_pos c49] at hjl
            rw [hjl, if_pos c49] at hR
            refine gc_seq fun K18 hK18 => ?_
            refine gc_region ?_
            refine gl_op rfl rfl rfl (op_pure hT rfl) ?_
            refine gl_op rfl rfl rfl (op_pure hT rfl) ?_
            first | refine gl_fit hT rfl rfl rfl rfl (by omega) ?_ | refine gl_op rfl rfl rfl (op_pure hT rfl) ?_
            refine gl_op rfl rfl rfl (op_pure hT rfl) ?_
            refine gl_op rfl rfl rfl (op_pure hT rfl) ?_
            refine gl_nil ?_
            refine hK18 _ _ ?_
            clear hK18; try clear K18
            refine gc_ret ?_
            try simp only [x_then_ret, x_block_ret]
            refine gk_ret2 rfl rfl rfl ?_
            refine ⟨?_, hS.below⟩
            rw [hR]
            first
              | done
              | (rw [if_pos (by omega)] <;> rfl)
              | (rw [if_neg (by omega), if_pos (by omega)] <;> rfl)
              | (rw [if_neg (by omega), if_neg (by omega)] <;> rfl)
              | (rw [show (1 : Int) + i + (p.G.length : Nat) = 1 + (p.G.length : Nat) + i by omega] <;> rfl)
              | trace_state
          · try simp only [decide_eq_true_eq, decide_eq_false_iff_not, Bool.not_eq_true', Bool.not_eq_false', Int.not_lt, Int.not_le, Nat.not_lt, Nat.not_le, Bool.true_eq, Bool.false_eq, reduceCtorEq] at c49
            rw [if_neg (by rw [c49]; simp)] at hjl
            refine gc_skip ?_
            refine hK15 _ _ ?_
            clear hK15; try clear K15
            refine gc_region ?_
            refine gl_op rfl rfl rfl (op_pure hT rfl) ?_
            first | refine gl_fit hT rfl rfl rfl rfl (by omega) ?_ | refine gl_op rfl rfl rfl (op_pure hT rfl) ?_
            refine gl_op rfl rfl rfl (op_pure hT rfl) ?_
            refine gl_nil ?_
            intro a ha
            exact ⟨i + 1, ha.sub ⟨rfl, rfl, rfl, rfl, trivial⟩, by omega, by omega, by rw [hjl, show (1 : Int) + ((i + 1 : Nat) : Int) = 1 + i + 1 by omega], hS⟩
        · try simp only [decide_eq_true_eq, decide_eq_false_iff_not, Bool.not_eq_true', Bool.not_eq_false', Int.not_lt, Int.not_le, Nat.not_lt, Nat.not_le, Bool.true_eq, Bool.false_eq, reduceCtorEq] at c38
          have hie : p.G.drop i = [] := List.drop_eq_nil_of_le (by have h : ((p.G.length : Nat) : Int) ≤ (i : Nat) := c38; omega)
          rw [hie] at hj
          have hj : listsGo n 1 p.G = (0, 0) := hj
          rw [hj, if_neg (by simp)] at hR
          refine gc_exit ?_
          refine hK11 _ _ ?_
          clear hK11; try clear K11
          refine gc_seq fun K19 hK19 => ?_
          refine gc_seq fun K20 hK20 => ?_
          refine gc_region ?_
          refine gl_op rfl rfl rfl (op_fieldB 2 rfl Tryd.underlying29 rfl el3 rfl rfl) ?_
          refine gl_op rfl rfl rfl (op_loadB 0 hT hS rfl rfl rfl rfl rfl rfl) ?_
          refine gl_op rfl rfl rfl (op_pure hT rfl) ?_
          first | refine gl_fit hT rfl rfl rfl rfl (by omega) ?_ | refine gl_op rfl rfl rfl (op_pure hT rfl) ?_
          refine gl_callf rfl rfl rfl rfl Tryd.func67 rfl rfl rfl (rWithin_calls p.T (-1) (out - 1) _) ?_
          rintro _ _ ⟨rfl, n57, rfl⟩
          refine ⟨_, rfl, ?_⟩
          have hS := hS.dr n57
          refine gl_op rfl rfl rfl (op_pure hT rfl) ?_
          refine gl_nil ?_
          refine hK20 _ _ ?_
          clear hK20; try clear K20
          refine gc_cond rfl rfl (fun c58 => ?_) (fun c58 => ?_)
          · try simp only [decide_eq_true_eq, decide_eq_false_iff_not, Bool.not_eq_true', Bool.not_eq_false', Int.not_lt, Int.not_le, Nat.not_lt, Nat.not_le, Bool.true_eq, Bool.false_eq, reduceCtorEq] at c58
            refine gc_seq fun K21 hK21 => ?_
            refine gc_region ?_
            refine gl_op rfl rfl rfl (op_pure hT rfl) ?_
            refine gl_op rfl rfl rfl (op_pure hT rfl) ?_
            refine gl_nil ?_
            refine hK21 _ _ ?_
            clear hK21; try clear K21
            refine gc_ret ?_
            try simp only [x_then_ret, x_block_ret]
            refine gk_ret2 rfl rfl rfl ?_
            refine ⟨?_, hS.below⟩
            rw [hR]
            first
              | done
              | (rw [if_pos (by omega)] <;> rfl)
              | (rw [if_neg (by omega), if_pos (by omega)] <;> rfl)
              | (rw [if_neg (by omega), if_neg (by omega)] <;> rfl)
              | (rw [show (1 : Int) + i + (p.G.length : Nat) = 1 + (p.G.length : Nat) + i by omega] <;> rfl)
              | trace_state
          · try simp only [decide_eq_true_eq, decide_eq_false_iff_not, Bool.not_eq_true', Bool.not_eq_false', Int.not_lt, Int.not_le, Nat.not_lt, Nat.not_le, Bool.true_eq, Bool.false_eq, reduceCtorEq] at c58
            refine gc_skip ?_
            refine hK19 _ _ ?_
            clear hK19; try clear K19
            refine gc_seq fun K22 hK22 => ?_
            refine gc_seq fun K23 hK23 => ?_
            refine gc_region ?_
            refine gl_op rfl rfl rfl (op_fieldB 3 rfl Tryd.underlying29 rfl el27 rfl rfl) ?_
            refine gl_op rfl rfl rfl (op_loadB 0 hT hS rfl rfl rfl rfl rfl rfl) ?_
            refine gl_op rfl rfl rfl (op_pure hT rfl) ?_
            refine gl_op rfl rfl rfl (op_pure hT rfl) ?_
            refine gl_nil ?_
            refine hK23 _ _ ?_
            clear hK23; try clear K23
            refine gc_cond rfl rfl (fun c62 => ?_) (fun c62 => ?_)
            · try simp only [decide_eq_true_eq, decide_eq_false_iff_not, Bool.not_eq_true', Bool.not_eq_false', Int.not_lt, Int.not_le, Nat.not_lt, Nat.not_le, Bool.true_eq, Bool.false_eq, reduceCtorEq] at c62
              refine gc_seq fun K24 hK24 => ?_
              refine gc_region ?_
              refine gl_op rfl rfl rfl (op_pure hT rfl) ?_
              refine gl_op rfl rfl rfl (op_pure hT rfl) ?_
              refine gl_nil ?_
              refine hK24 _ _ ?_
              clear hK24; try clear K24
              refine gc_ret ?_
              try simp only [x_then_ret, x_block_ret]
              refine gk_ret2 rfl rfl rfl ?_
              refine ⟨?_, hS.below⟩
              rw [hR]
              first
                | done
                | (rw [if_pos (by omega)] <;> rfl)
                | (rw [if_neg (by omega), if_pos (by omega)] <;> rfl)
                | (rw [if_neg (by omega), if_neg (by omega)] <;> rfl)
                | (rw [show (1 : Int) + i + (p.G.length : Nat) = 1 + (p.G.length : Nat) + i by omega] <;> rfl)
                | trace_state
            · try simp only [decide_eq_true_eq, decide_eq_false_iff_not, Bool.not_eq_true', Bool.not_eq_false', Int.not_lt, Int.not_le, Nat.not_lt, Nat.not_le, Bool.true_eq, Bool.false_eq, reduceCtorEq] at c62
              refine gc_skip ?_
              refine hK22 _ _ ?_
              clear hK22; try clear K22
              refine gc_seq fun K25 hK25 => ?_
              refine gc_seq fun K26 hK26 => ?_
              refine gc_region ?_
              refine gl_op rfl rfl rfl (op_pure hT rfl) ?_
              refine gl_nil ?_
              refine hK26 _ _ ?_
              clear hK26; try clear K26
              refine gc_block ?_
              have c62 : ((p.M.length : Nat) : Int) ≤ 64 := c62
              rw [if_neg (by omega), if_neg (by omega)] at hR
              refine gc_loop (fun k a w' => ∃ i : Nat, Fr 116 a [(1, .int .i64 n), (2, .int .i64 out), (3, .pointer (some ⟨g3, 0, none⟩)), (10, .int .i64 (i : Nat))] ∧ i ≤ p.M.length ∧ k = p.M.length - i + 1 ∧ listsGo (out + 1) (1 + (p.G.length : Nat)) p.M = listsGo (out + 1) (1 + (p.G.length : Nat) + i) (p.M.drop i) ∧
                St w.heap.size w w' [.blk g3 29 (propC C (G1, p.G.length, G3) (M1, p.M.length, M3) p)]) (p.M.length + 1) ?_ ?_ ?_
              · intro a ha; exact ⟨0, ha.sub ⟨rfl, rfl, rfl, rfl, trivial⟩, by omega, by omega, by simp, hS⟩
              · rintro a w ⟨i, _, h1, h2, _⟩; omega
              rintro k a w1 ⟨i, hF, hi, hk, hj, hS⟩
              refine gc_of hF ?_
              clear hF
              refine gc_seq fun K27 hK27 => ?_
              refine gc_seq fun K28 hK28 => ?_
              refine gc_region ?_
              refine gl_op rfl rfl rfl (op_pure hT rfl) ?_
              refine gl_op rfl rfl rfl (op_fieldB 3 rfl Tryd.underlying29 rfl el27 rfl rfl) ?_
              refine gl_op rfl rfl rfl (op_loadB 0 hT hS rfl rfl rfl rfl rfl rfl) ?_
              refine gl_op rfl rfl rfl (op_pure hT rfl) ?_
              refine gl_op rfl rfl rfl (op_pure hT rfl) ?_
              refine gl_nil ?_
              refine hK28 _ _ ?_
              clear hK28; try clear K28
              refine gc_cond rfl rfl (fun c67 => ?_) (fun c67 => ?_)
              · try simp only [decide_eq_true_eq, decide_eq_false_iff_not, Bool.not_eq_true', Bool.not_eq_false', Int.not_lt, Int.not_le, Nat.not_lt, Nat.not_le, Bool.true_eq, Bool.false_eq, reduceCtorEq] at c67
                refine gc_skip ?_
                refine hK27 _ _ ?_
                clear hK27; try clear K27
                refine gc_seq fun K29 hK29 => ?_
                refine gc_block ?_
                refine gc_seq fun K30 hK30 => ?_
                refine gc_region ?_
                refine gl_op rfl rfl rfl (op_fieldB 3 rfl Tryd.underlying29 rfl el27 rfl rfl) ?_
                refine gl_op rfl rfl rfl (op_loadB 0 hT hS rfl rfl rfl rfl rfl rfl) ?_
                refine gl_op rfl rfl rfl (op_pure hT rfl) ?_
                have hil : i < p.M.length := by omega
                obtain ⟨l, hu⟩ : ∃ l, p.M[i]? = some l := ⟨_, List.getElem?_eq_getElem hil⟩
                obtain ⟨x, hx⟩ : ∃ x, SM[i]? = some x := ⟨_, List.getElem?_eq_getElem (by omega)⟩
                have hdrop : p.M.drop i = l :: p.M.drop (i + 1) := by
                  rw [List.drop_eq_getElem_cons hil]
                  have : p.M[i] = l := by rw [List.getElem?_eq_getElem hil] at hu; exact Option.some.inj hu
                  rw [this]
                have hjl : listsGo (out + 1) (1 + (p.G.length : Nat)) p.M = if listV l (out + 1) ≠ 0 then (listV l (out + 1), 1 + (p.G.length : Nat) + (i : Int)) else listsGo (out + 1) (1 + (p.G.length : Nat) + i + 1) (p.M.drop (i + 1)) := by rw [hj, hdrop]; rfl
                obtain ⟨ad, hA, hc⟩ := (D.rM.rS.old hS).at (none, 0, 0) (i := (i : Int)) (by omega) (by omega)
                have hug : SM.getD ((i : Int)).toNat (none, 0, 0) = x := by rw [Int.toNat_natCast, List.getD_eq_getElem?_getD, hx]; rfl
                rw [hug] at hc
                refine gl_op rfl rfl rfl (op_indexAddr hT rfl rfl el26.cellsOf.1 el26.cellsOf.2 rfl rfl (by omega) (show (i : Int) < (p.M.length : Nat) by omega) hA) ?_
                refine gl_op rfl rfl rfl (op_load hT rfl rfl rfl rfl hc) ?_
                refine gl_op rfl rfl rfl (op_pure hT rfl) ?_
                first | refine gl_fit hT rfl rfl rfl rfl (by omega) ?_ | refine gl_op rfl rfl rfl (op_pure hT rfl) ?_
                refine gl_callf rfl rfl rfl rfl Tryd.func68 rfl rfl rfl (rList_calls _ _ _ l (out + 1) _ ((D.rM.old hS).rd i x l hx hu).1 (D.rM.rd i x l hx hu).2.1 (D.rM.rd i x l hx hu).2.2.1 (D.rM.rd i x l hx hu).2.2.2) ?_
                rintro _ _ ⟨rfl, n77, rfl⟩
                refine ⟨_, rfl, ?_⟩
                have hS := hS.dr n77
                refine gl_op rfl rfl rfl (op_pure hT rfl) ?_
                refine gl_nil ?_
                refine hK30 _ _ ?_
                clear hK30; try clear K30
                refine gc_seq fun K31 hK31 => ?_
                refine gc_region ?_
                refine gl_op rfl rfl rfl (op_pure hT rfl) ?_
                refine gl_op rfl rfl rfl (op_pure hT rfl) ?_
                refine gl_nil ?_
                refine hK31 _ _ ?_
                clear hK31; try clear K31
                refine gc_cond rfl rfl (fun c79 => ?_) (fun c79 => ?_)
                · try simp only [decide_eq_true_eq, decide_eq_false_iff_not, Bool.not_eq_true', Bool.not_eq_false', Int.not_lt, Int.not_le, Nat.not_lt, Nat.not_le, Bool.true_eq, Bool.false_eq, reduceCtorEq] at c79
                  rw [if_pos c79] at hjl
                  rw [hjl, if_pos c79] at hR
                  refine gc_seq fun K32 hK32 => ?_
                  refine gc_anyS hS (by kernel_rfl) rfl fun nq23 hK => ?_
                  have hS := hS.dr nq23
                  refine ga_take 0 rfl rfl rfl rfl (by kernel_rfl) (fun _ _ _ _ h => h) hK (fun w1 hS => op_pure hT rfl) ?_
                  refine ga_take 1 rfl rfl rfl rfl (by kernel_rfl) (fun _ _ _ _ h => h) hK (fun w1 hS => op_pure hT rfl) ?_
                  refine ga_take 2 rfl rfl rfl rfl (by kernel_rfl) (fun _ _ _ _ h => h) hK (fun w1 hS => (by first | exact op_fit hT rfl (by omega) | exact op_pure hT rfl)) ?_
                  refine ga_take 3 rfl rfl rfl rfl (by kernel_rfl) (fun _ _ _ _ h => h) hK (fun w1 hS => op_fieldB 1 rfl Tryd.underlying29 rfl el27 rfl rfl) ?_
                  refine ga_take 4 rfl rfl rfl rfl (by kernel_rfl) (fun _ _ _ _ h => h) hK (fun w1 hS => op_loadB 0 hT hS rfl rfl rfl rfl rfl rfl) ?_
                  refine ga_take 5 rfl rfl rfl rfl (by kernel_rfl) (fun _ _ _ _ h => h) hK (fun w1 hS => op_pure hT rfl) ?_
                  refine ga_take 6 rfl rfl rfl rfl (by kernel_rfl) (fun _ _ _ _ h => h) hK (fun w1 hS => (by first | exact op_fit hT rfl (by dsimp only; omega) | exact op_pure hT rfl)) ?_
                  refine ga_take 7 rfl rfl rfl rfl (by kernel_rfl) (fun _ _ _ _ h => h) hK (fun w1 hS => op_pure hT rfl) ?_
                  refine ga_take 8 rfl rfl rfl rfl (by kernel_rfl) (fun _ _ _ _ h => h) hK (fun w1 hS => op_pure hT rfl) ?_
                  refine ga_done (by kernel_rfl) ?_
                  refine hK32 _ _ ?_
                  clear hK32; try clear K32
                  refine gc_ret ?_
                  try simp only [x_then_ret, x_block_ret]
                  refine gk_ret2 rfl rfl rfl ?_
                  refine ⟨?_, hS.below⟩
                  rw [hR]
                  first
                    | done
                    | (rw [if_pos (by omega)] <;> rfl)
                    | (rw [if_neg (by omega), if_pos (by omega)] <;> rfl)
                    | (rw [if_neg (by omega), if_neg (by omega)] <;> rfl)
                    | (rw [show (1 : Int) + i + (p.G.length : Nat) = 1 + (p.G.length : Nat) + i by omega] <;> rfl)
                    | trace_state
                · try simp only [decide_eq_true_eq, decide_eq_false_iff_not, Bool.not_eq_true', Bool.not_eq_false', Int.not_lt, Int.not_le, Nat.not_lt, Nat.not_le, Bool.true_eq, Bool.false_eq, reduceCtorEq] at c79
                  rw [if_neg (by rw [c79]; simp)] at hjl
                  refine gc_skip ?_
                  refine hK29 _ _ ?_
                  clear hK29; try clear K29
                  refine gc_region ?_
                  refine gl_op rfl rfl rfl (op_pure hT rfl) ?_
                  first | refine gl_fit hT rfl rfl rfl rfl (by omega) ?_ | refine gl_op rfl rfl rfl (op_pure hT rfl) ?_
                  refine gl_op rfl rfl rfl (op_pure hT rfl) ?_
                  refine gl_nil ?_
                  intro a ha
                  exact ⟨i + 1, ha.sub ⟨rfl, rfl, rfl, rfl, trivial⟩, by omega, by omega, by rw [hjl, show (1 : Int) + (p.G.length : Nat) + ((i + 1 : Nat) : Int) = 1 + (p.G.length : Nat) + i + 1 by omega], hS⟩
              · try simp only [decide_eq_true_eq, decide_eq_false_iff_not, Bool.not_eq_true', Bool.not_eq_false', Int.not_lt, Int.not_le, Nat.not_lt, Nat.not_le, Bool.true_eq, Bool.false_eq, reduceCtorEq] at c67
                have hie : p.M.drop i = [] := List.drop_eq_nil_of_le (by have h : ((p.M.length : Nat) : Int) ≤ (i : Nat) := c67; omega)
                rw [hie] at hj
                have hj : listsGo (out + 1) (1 + (p.G.length : Nat)) p.M = (0, 0) := hj
                rw [hj, if_neg (by simp)] at hR
                refine gc_exit ?_
                refine hK25 _ _ ?_
                clear hK25; try clear K25
                refine gc_seq fun K33 hK33 => ?_
                refine gc_seq fun K34 hK34 => ?_
                refine gc_region ?_
                refine gl_op rfl rfl rfl (op_fieldB 3 rfl Tryd.underlying29 rfl el27 rfl rfl) ?_
                refine gl_op rfl rfl rfl (op_loadB 0 hT hS rfl rfl rfl rfl rfl rfl) ?_
                refine gl_op rfl rfl rfl (op_pure hT rfl) ?_
                refine gl_op rfl rfl rfl (op_pure hT rfl) ?_
                refine gl_op rfl rfl rfl (op_pure hT rfl) ?_
                refine gl_split (t := 91) rfl (fun c91 => ?_) (fun c91 => ?_)
                · try simp only [decide_eq_true_eq, decide_eq_false_iff_not, Bool.not_eq_true', Bool.not_eq_false', Int.not_lt, Int.not_le, Nat.not_lt, Nat.not_le, Bool.true_eq, Bool.false_eq, reduceCtorEq] at c91
                  refine gl_un rfl rfl rfl rfl ?_
                  refine gl_op rfl rfl rfl (op_fieldB 2 rfl Tryd.underlying29 rfl el3 rfl rfl) ?_
                  refine gl_un rfl rfl rfl rfl ?_
                  refine gl_op rfl rfl rfl (op_loadB 0 hT hS rfl rfl rfl rfl rfl rfl) ?_
                  refine gl_un rfl rfl rfl rfl ?_
                  refine gl_op rfl rfl rfl (op_pure hT rfl) ?_
                  refine gl_un rfl rfl rfl rfl ?_
                  refine gl_op rfl rfl rfl (op_pure hT rfl) ?_
                  refine gl_split (t := 95) rfl (fun c95 => ?_) (fun c95 => ?_)
                  · try simp only [decide_eq_true_eq, decide_eq_false_iff_not, Bool.not_eq_true', Bool.not_eq_false', Int.not_lt, Int.not_le, Nat.not_lt, Nat.not_le, Bool.true_eq, Bool.false_eq, reduceCtorEq] at c95
                    refine gl_pass rfl rfl rfl rfl rfl rfl ?_
                    refine gl_pass rfl rfl rfl rfl rfl rfl ?_
                    refine gl_un rfl rfl rfl rfl ?_
                    refine gl_op rfl rfl rfl (op_pure hT rfl) ?_
                    refine gl_op rfl rfl rfl (op_pure hT rfl) ?_
                    refine gl_nil ?_
                    refine hK34 _ _ ?_
                    clear hK34; try clear K34
                    refine gc_cond_t rfl ?_
                    refine gc_seq fun K35 hK35 => ?_
                    refine gc_region ?_
                    refine gl_op rfl rfl rfl (op_pure hT rfl) ?_
                    refine gl_op rfl rfl rfl (op_pure hT rfl) ?_
                    refine gl_nil ?_
                    refine hK35 _ _ ?_
                    clear hK35; try clear K35
                    refine gc_ret ?_
                    try simp only [x_then_ret, x_block_ret]
                    refine gk_ret2 rfl rfl rfl ?_
                    refine ⟨?_, hS.below⟩
                    rw [hR]
                    first
                      | done
                      | (rw [if_pos (by omega)] <;> rfl)
                      | (rw [if_neg (by omega), if_pos (by omega)] <;> rfl)
                      | (rw [if_neg (by omega), if_neg (by omega)] <;> rfl)
                      | (rw [show (1 : Int) + i + (p.G.length : Nat) = 1 + (p.G.length : Nat) + i by omega] <;> rfl)
                      | trace_state
                  · try simp only [decide_eq_true_eq, decide_eq_false_iff_not, Bool.not_eq_true', Bool.not_eq_false', Int.not_lt, Int.not_le, Nat.not_lt, Nat.not_le, Bool.true_eq, Bool.false_eq, reduceCtorEq] at c95
                    refine gl_un rfl rfl rfl rfl ?_
                    refine gl_op rfl rfl rfl (op_pure hT rfl) ?_
                    refine gl_un rfl rfl rfl rfl ?_
                    refine gl_op rfl rfl rfl (op_pure hT rfl) ?_
                    refine gl_un rfl rfl rfl rfl ?_
                    refine gl_op rfl rfl rfl (op_pure hT rfl) ?_
                    refine gl_op rfl rfl rfl (op_pure hT rfl) ?_
                    refine gl_nil ?_
                    refine hK34 _ _ ?_
                    clear hK34; try clear K34
                    refine gc_cond rfl rfl (fun c99 => ?_) (fun c99 => ?_)
                    · try simp only [decide_eq_true_eq, decide_eq_false_iff_not, Bool.not_eq_true', Bool.not_eq_false', Int.not_lt, Int.not_le, Nat.not_lt, Nat.not_le, Bool.true_eq, Bool.false_eq, reduceCtorEq] at c99
                      refine gc_seq fun K36 hK36 => ?_
                      refine gc_region ?_
                      refine gl_op rfl rfl rfl (op_pure hT rfl) ?_
                      refine gl_op rfl rfl rfl (op_pure hT rfl) ?_
                      refine gl_nil ?_
                      refine hK36 _ _ ?_
                      clear hK36; try clear K36
                      refine gc_ret ?_
                      try simp only [x_then_ret, x_block_ret]
                      refine gk_ret2 rfl rfl rfl ?_
                      refine ⟨?_, hS.below⟩
                      rw [hR]
                      first
                        | done
                        | (rw [if_pos (by omega)] <;> rfl)
                        | (rw [if_neg (by omega), if_pos (by omega)] <;> rfl)
                        | (rw [if_neg (by omega), if_neg (by omega)] <;> rfl)
                        | (rw [show (1 : Int) + i + (p.G.length : Nat) = 1 + (p.G.length : Nat) + i by omega] <;> rfl)
                        | trace_state
                    · try simp only [decide_eq_true_eq, decide_eq_false_iff_not, Bool.not_eq_true', Bool.not_eq_false', Int.not_lt, Int.not_le, Nat.not_lt, Nat.not_le, Bool.true_eq, Bool.false_eq, reduceCtorEq] at c99
                      refine gc_skip ?_
                      refine hK33 _ _ ?_
                      clear hK33; try clear K33
                      refine gc_seq fun K37 hK37 => ?_
                      refine gc_seq fun K38 hK38 => ?_
                      refine gc_region ?_
                      refine gl_op rfl rfl rfl (op_fieldB 4 rfl Tryd.underlying29 rfl el3 rfl rfl) ?_
                      refine gl_op rfl rfl rfl (op_loadB 0 hT hS rfl rfl rfl rfl rfl rfl) ?_
                      refine gl_callf rfl rfl rfl rfl Tryd.func67 rfl rfl rfl (rWithin_calls p.K 1 8 _) ?_
                      rintro _ _ ⟨rfl, n102, rfl⟩
                      refine ⟨_, rfl, ?_⟩
                      have hS := hS.dr n102
                      refine gl_op rfl rfl rfl (op_pure hT rfl) ?_
                      refine gl_op rfl rfl rfl (op_pure hT rfl) ?_
                      refine gl_split (t := 104) rfl (fun c104 => ?_) (fun c104 => ?_)
                      · try simp only [decide_eq_true_eq, decide_eq_false_iff_not, Bool.not_eq_true', Bool.not_eq_false', Int.not_lt, Int.not_le, Nat.not_lt, Nat.not_le, Bool.true_eq, Bool.false_eq, reduceCtorEq] at c104
                        refine gl_pass rfl rfl rfl rfl rfl rfl ?_
                        refine gl_pass rfl rfl rfl rfl rfl rfl ?_
                        refine gl_pass rfl rfl rfl rfl rfl rfl ?_
                        refine gl_pass rfl rfl rfl rfl rfl rfl ?_
                        refine gl_op rfl rfl rfl (op_pure hT rfl) ?_
                        refine gl_op rfl rfl rfl (op_pure hT rfl) ?_
                        refine gl_pass rfl rfl rfl rfl rfl rfl ?_
                        refine gl_pass rfl rfl rfl rfl rfl rfl ?_
                        refine gl_pass rfl rfl rfl rfl rfl rfl ?_
                        refine gl_pass rfl rfl rfl rfl rfl rfl ?_
                        refine gl_op rfl rfl rfl (op_pure hT rfl) ?_
                        refine gl_nil ?_
                        refine hK38 _ _ ?_
                        clear hK38; try clear K38
                        refine gc_cond_t rfl ?_
                        refine gc_seq fun K39 hK39 => ?_
                        refine gc_region ?_
                        refine gl_op rfl rfl rfl (op_pure hT rfl) ?_
                        refine gl_op rfl rfl rfl (op_pure hT rfl) ?_
                        refine gl_nil ?_
                        refine hK39 _ _ ?_
                        clear hK39; try clear K39
                        refine gc_ret ?_
                        try simp only [x_then_ret, x_block_ret]
                        refine gk_ret2 rfl rfl rfl ?_
                        refine ⟨?_, hS.below⟩
                        rw [hR]
                        first
                          | done
                          | (rw [if_pos (by omega)] <;> rfl)
                          | (rw [if_neg (by omega), if_pos (by omega)] <;> rfl)
                          | (rw [if_neg (by omega), if_neg (by omega)] <;> rfl)
                          | (rw [show (1 : Int) + i + (p.G.length : Nat) = 1 + (p.G.length : Nat) + i by omega] <;> rfl)
                          | trace_state
                      · try simp only [decide_eq_true_eq, decide_eq_false_iff_not, Bool.not_eq_true', Bool.not_eq_false', Int.not_lt, Int.not_le, Nat.not_lt, Nat.not_le, Bool.true_eq, Bool.false_eq, reduceCtorEq] at c104
                        refine gl_un rfl rfl rfl rfl ?_
                        refine gl_op rfl rfl rfl (op_fieldB 5 rfl Tryd.underlying29 rfl el3 rfl rfl) ?_
                        refine gl_un rfl rfl rfl rfl ?_
                        refine gl_op rfl rfl rfl (op_loadB 0 hT hS rfl rfl rfl rfl rfl rfl) ?_
                        refine gl_un rfl rfl rfl rfl ?_
                        refine gl_callf rfl rfl rfl rfl Tryd.func67 rfl rfl rfl (rWithin_calls p.D 0 8 _) ?_
                        rintro _ _ ⟨rfl, n107, rfl⟩
                        refine ⟨_, rfl, ?_⟩
                        have hS := hS.dr n107
                        refine gl_un rfl rfl rfl rfl ?_
                        refine gl_op rfl rfl rfl (op_pure hT rfl) ?_
                        refine gl_op rfl rfl rfl (op_pure hT rfl) ?_
                        refine gl_op rfl rfl rfl (op_pure hT rfl) ?_
                        refine gl_split (t := 110) rfl (fun c110 => ?_) (fun c110 => ?_)
                        · try simp only [decide_eq_true_eq, decide_eq_false_iff_not, Bool.not_eq_true', Bool.not_eq_false', Int.not_lt, Int.not_le, Nat.not_lt, Nat.not_le, Bool.true_eq, Bool.false_eq, reduceCtorEq] at c110
                          refine gl_pass rfl rfl rfl rfl rfl rfl ?_
                          refine gl_pass rfl rfl rfl rfl rfl rfl ?_
                          refine gl_pass rfl rfl rfl rfl rfl rfl ?_
                          refine gl_pass rfl rfl rfl rfl rfl rfl ?_
                          refine gl_op rfl rfl rfl (op_pure hT rfl) ?_
                          refine gl_nil ?_
                          refine hK38 _ _ ?_
                          clear hK38; try clear K38
                          refine gc_cond_t rfl ?_
                          refine gc_seq fun K40 hK40 => ?_
                          refine gc_region ?_
                          refine gl_op rfl rfl rfl (op_pure hT rfl) ?_
                          refine gl_op rfl rfl rfl (op_pure hT rfl) ?_
                          refine gl_nil ?_
                          refine hK40 _ _ ?_
                          clear hK40; try clear K40
                          refine gc_ret ?_
                          try simp only [x_then_ret, x_block_ret]
                          refine gk_ret2 rfl rfl rfl ?_
                          refine ⟨?_, hS.below⟩
                          rw [hR]
                          first
                            | done
                            | (rw [if_pos (by omega)] <;> rfl)
                            | (rw [if_neg (by omega), if_pos (by omega)] <;> rfl)
                            | (rw [if_neg (by omega), if_neg (by omega)] <;> rfl)
                            | (rw [show (1 : Int) + i + (p.G.length : Nat) = 1 + (p.G.length : Nat) + i by omega] <;> rfl)
                            | trace_state
                        · try simp only [decide_eq_true_eq, decide_eq_false_iff_not, Bool.not_eq_true', Bool.not_eq_false', Int.not_lt, Int.not_le, Nat.not_lt, Nat.not_le, Bool.true_eq, Bool.false_eq, reduceCtorEq] at c110
                          refine gl_un rfl rfl rfl rfl ?_
                          refine gl_op rfl rfl rfl (op_fieldB 6 rfl Tryd.underlying29 rfl el3 rfl rfl) ?_
                          refine gl_un rfl rfl rfl rfl ?_
                          refine gl_op rfl rfl rfl (op_loadB 0 hT hS rfl rfl rfl rfl rfl rfl) ?_
                          refine gl_un rfl rfl rfl rfl ?_
                          refine gl_callf rfl rfl rfl rfl Tryd.func67 rfl rfl rfl (rWithin_calls p.S 1 1024 _) ?_
                          rintro _ _ ⟨rfl, n113, rfl⟩
                          refine ⟨_, rfl, ?_⟩
                          have hS := hS.dr n113
                          refine gl_un rfl rfl rfl rfl ?_
                          refine gl_op rfl rfl rfl (op_pure hT rfl) ?_
                          refine gl_op rfl rfl rfl (op_pure hT rfl) ?_
                          refine gl_nil ?_
                          refine hK38 _ _ ?_
                          clear hK38; try clear K38
                          refine gc_cond rfl rfl (fun c115 => ?_) (fun c115 => ?_)
                          · try simp only [decide_eq_true_eq, decide_eq_false_iff_not, Bool.not_eq_true', Bool.not_eq_false', Int.not_lt, Int.not_le, Nat.not_lt, Nat.not_le, Bool.true_eq, Bool.false_eq, reduceCtorEq] at c115
                            refine gc_seq fun K41 hK41 => ?_
                            refine gc_region ?_
                            refine gl_op rfl rfl rfl (op_pure hT rfl) ?_
                            refine gl_op rfl rfl rfl (op_pure hT rfl) ?_
                            refine gl_nil ?_
                            refine hK41 _ _ ?_
                            clear hK41; try clear K41
                            refine gc_ret ?_
                            try simp only [x_then_ret, x_block_ret]
                            refine gk_ret2 rfl rfl rfl ?_
                            refine ⟨?_, hS.below⟩
                            rw [hR]
                            first
                              | done
                              | (rw [if_pos (by omega)] <;> rfl)
                              | (rw [if_neg (by omega), if_pos (by omega)] <;> rfl)
                              | (rw [if_neg (by omega), if_neg (by omega)] <;> rfl)
                              | (rw [show (1 : Int) + i + (p.G.length : Nat) = 1 + (p.G.length : Nat) + i by omega] <;> rfl)
                              | trace_state
                          · try simp only [decide_eq_true_eq, decide_eq_false_iff_not, Bool.not_eq_true', Bool.not_eq_false', Int.not_lt, Int.not_le, Nat.not_lt, Nat.not_le, Bool.true_eq, Bool.false_eq, reduceCtorEq] at c115
                            refine gc_skip ?_
                            refine hK37 _ _ ?_
                            clear hK37; try clear K37
                            refine gc_seq fun K42 hK42 => ?_
                            refine gc_region ?_
                            refine gl_op rfl rfl rfl (op_pure hT rfl) ?_
                            refine gl_op rfl rfl rfl (op_pure hT rfl) ?_
                            refine gl_nil ?_
                            refine hK42 _ _ ?_
                            clear hK42; try clear K42
                            refine gc_ret ?_
                            try simp only [x_then_ret, x_block_ret]
                            refine gk_ret2 rfl rfl rfl ?_
                            refine ⟨?_, hS.below⟩
                            rw [hR]
                            first
                              | done
                              | (rw [if_pos (by omega)] <;> rfl)
                              | (rw [if_neg (by omega), if_pos (by omega)] <;> rfl)
                              | (rw [if_neg (by omega), if_neg (by omega)] <;> rfl)
                              | (rw [show (1 : Int) + i + (p.G.length : Nat) = 1 + (p.G.length : Nat) + i by omega] <;> rfl)
                              | trace_state
                · try simp only [decide_eq_true_eq, decide_eq_false_iff_not, Bool.not_eq_true', Bool.not_eq_false', Int.not_lt, Int.not_le, Nat.not_lt, Nat.not_le, Bool.true_eq, Bool.false_eq, reduceCtorEq] at c91
                  refine gl_pass rfl rfl rfl rfl rfl rfl ?_
                  refine gl_pass rfl rfl rfl rfl rfl rfl ?_
                  refine gl_pass rfl rfl rfl rfl rfl rfl ?_
                  refine gl_pass rfl rfl rfl rfl rfl rfl ?_
                  refine gl_none rfl rfl rfl rfl rfl ?_
                  refine gl_none rfl rfl rfl rfl rfl ?_
                  refine gl_pass rfl rfl rfl rfl rfl rfl ?_
                  refine gl_op rfl rfl rfl (op_pure hT rfl) ?_
                  refine gl_nil ?_
                  refine hK34 _ _ ?_
                  clear hK34; try clear K34
                  refine gc_cond_f rfl ?_
                  refine gc_skip ?_
                  refine hK33 _ _ ?_
                  clear hK33; try clear K33
                  refine gc_seq fun K43 hK43 => ?_
                  refine gc_seq fun K44 hK44 => ?_
                  refine gc_region ?_
                  refine gl_op rfl rfl rfl (op_fieldB 4 rfl Tryd.underlying29 rfl el3 rfl rfl) ?_
                  refine gl_op rfl rfl rfl (op_loadB 0 hT hS rfl rfl rfl rfl rfl rfl) ?_
                  refine gl_callf rfl rfl rfl rfl Tryd.func67 rfl rfl rfl (rWithin_calls p.K 1 8 _) ?_
                  rintro _ _ ⟨rfl, n102, rfl⟩
                  refine ⟨_, rfl, ?_⟩
                  have hS := hS.dr n102
                  refine gl_op rfl rfl rfl (op_pure hT rfl) ?_
                  refine gl_op rfl rfl rfl (op_pure hT rfl) ?_
                  refine gl_split (t := 104) rfl (fun c104 => ?_) (fun c104 => ?_)
                  · try simp only [decide_eq_true_eq, decide_eq_false_iff_not, Bool.not_eq_true', Bool.not_eq_false', Int.not_lt, Int.not_le, Nat.not_lt, Nat.not_le, Bool.true_eq, Bool.false_eq, reduceCtorEq] at c104
                    refine gl_pass rfl rfl rfl rfl rfl rfl ?_
                    refine gl_pass rfl rfl rfl rfl rfl rfl ?_
                    refine gl_pass rfl rfl rfl rfl rfl rfl ?_
                    refine gl_pass rfl rfl rfl rfl rfl rfl ?_
                    refine gl_op rfl rfl rfl (op_pure hT rfl) ?_
                    refine gl_op rfl rfl rfl (op_pure hT rfl) ?_
                    refine gl_pass rfl rfl rfl rfl rfl rfl ?_
                    refine gl_pass rfl rfl rfl rfl rfl rfl ?_
                    refine gl_pass rfl rfl rfl rfl rfl rfl ?_
                    refine gl_pass rfl rfl rfl rfl rfl rfl ?_
                    refine gl_op rfl rfl rfl (op_pure hT rfl) ?_
                    refine gl_nil ?_
                    refine hK44 _ _ ?_
                    clear hK44; try clear K44
                    refine gc_cond_t rfl ?_
                    refine gc_seq fun K45 hK45 => ?_
                    refine gc_region ?_
                    refine gl_op rfl rfl rfl (op_pure hT rfl) ?_
                    refine gl_op rfl rfl rfl (op_pure hT rfl) ?_
                    refine gl_nil ?_
                    refine hK45 _ _ ?_
                    clear hK45; try clear K45
                    refine gc_ret ?_
                    try simp only [x_then_ret, x_block_ret]
                    refine gk_ret2 rfl rfl rfl ?_
                    refine ⟨?_, hS.below⟩
                    rw [hR]
                    first
                      | done
                      | (rw [if_pos (by omega)] <;> rfl)
                      | (rw [if_neg (by omega), if_pos (by omega)] <;> rfl)
                      | (rw [if_neg (by omega), if_neg (by omega)] <;> rfl)
                      | (rw [show (1 : Int) + i + (p.G.length : Nat) = 1 + (p.G.length : Nat) + i by omega] <;> rfl)
                      | trace_state
                  · try simp only [decide_eq_true_eq, decide_eq_false_iff_not, Bool.not_eq_true', Bool.not_eq_false', Int.not_lt, Int.not_le, Nat.not_lt, Nat.not_le, Bool.true_eq, Bool.false_eq, reduceCtorEq] at c104
                    refine gl_un rfl rfl rfl rfl ?_
                    refine gl_op rfl rfl rfl (op_fieldB 5 rfl Tryd.underlying29 rfl el3 rfl rfl) ?_
                    refine gl_un rfl rfl rfl rfl ?_
                    refine gl_op rfl rfl rfl (op_loadB 0 hT hS rfl rfl rfl rfl rfl rfl) ?_
                    refine gl_un rfl rfl rfl rfl ?_
                    refine gl_callf rfl rfl rfl rfl Tryd.func67 rfl rfl rfl (rWithin_calls p.D 0 8 _) ?_
                    rintro _ _ ⟨rfl, n107, rfl⟩
                    refine ⟨_, rfl, ?_⟩
                    have hS := hS.dr n107
                    refine gl_un rfl rfl rfl rfl ?_
                    refine gl_op rfl rfl rfl (op_pure hT rfl) ?_
                    refine gl_op rfl rfl rfl (op_pure hT rfl) ?_
                    refine gl_op rfl rfl rfl (op_pure hT rfl) ?_
                    refine gl_split (t := 110) rfl (fun c110 => ?_) (fun c110 => ?_)
                    · try simp only [decide_eq_true_eq, decide_eq_false_iff_not, Bool.not_eq_true', Bool.not_eq_false', Int.not_lt, Int.not_le, Nat.not_lt, Nat.not_le, Bool.true_eq, Bool.false_eq, reduceCtorEq] at c110
                      refine gl_pass rfl rfl rfl rfl rfl rfl ?_
                      refine gl_pass rfl rfl rfl rfl rfl rfl ?_
                      refine gl_pass rfl rfl rfl rfl rfl rfl ?_
                      refine gl_pass rfl rfl rfl rfl rfl rfl ?_
                      refine gl_op rfl rfl rfl (op_pure hT rfl) ?_
                      refine gl_nil ?_
                      refine hK44 _ _ ?_
                      clear hK44; try clear K44
                      refine gc_cond_t rfl ?_
                      refine gc_seq fun K46 hK46 => ?_
                      refine gc_region ?_
                      refine gl_op rfl rfl rfl (op_pure hT rfl) ?_
                      refine gl_op rfl rfl rfl (op_pure hT rfl) ?_
                      refine gl_nil ?_
                      refine hK46 _ _ ?_
                      clear hK46; try clear K46
                      refine gc_ret ?_
                      try simp only [x_then_ret, x_block_ret]
                      refine gk_ret2 rfl rfl rfl ?_
                      refine ⟨?_, hS.below⟩
                      rw [hR]
                      first
                        | done
                        | (rw [if_pos (by omega)] <;> rfl)
                        | (rw [if_neg (by omega), if_pos (by omega)] <;> rfl)
                        | (rw [if_neg (by omega), if_neg (by omega)] <;> rfl)
                        | (rw [show (1 : Int) + i + (p.G.length : Nat) = 1 + (p.G.length : Nat) + i by omega] <;> rfl)
                        | trace_state
                    · try simp only [decide_eq_true_eq, decide_eq_false_iff_not, Bool.not_eq_true', Bool.not_eq_false', Int.not_lt, Int.not_le, Nat.not_lt, Nat.not_le, Bool.true_eq, Bool.false_eq, reduceCtorEq] at c110
                      refine gl_un rfl rfl rfl rfl ?_
                      refine gl_op rfl rfl rfl (op_fieldB 6 rfl Tryd.underlying29 rfl el3 rfl rfl) ?_
                      refine gl_un rfl rfl rfl rfl ?_
                      refine gl_op rfl rfl rfl (op_loadB 0 hT hS rfl rfl rfl rfl rfl rfl) ?_
                      refine gl_un rfl rfl rfl rfl ?_
                      refine gl_callf rfl rfl rfl rfl Tryd.func67 rfl rfl rfl (rWithin_calls p.S 1 1024 _) ?_
                      rintro _ _ ⟨rfl, n113, rfl⟩
                      refine ⟨_, rfl, ?_⟩
                      have hS := hS.dr n113
                      refine gl_un rfl rfl rfl rfl ?_
                      refine gl_op rfl rfl rfl (op_pure hT rfl) ?_
                      refine gl_op rfl rfl rfl (op_pure hT rfl) ?_
                      refine gl_nil ?_
                      refine hK44 _ _ ?_
                      clear hK44; try clear K44
                      refine gc_cond rfl rfl (fun c115 => ?_) (fun c115 => ?_)
                      · try simp only [decide_eq_true_eq, decide_eq_false_iff_not, Bool.not_eq_true', Bool.not_eq_false', Int.not_lt, Int.not_le, Nat.not_lt, Nat.not_le, Bool.true_eq, Bool.false_eq, reduceCtorEq] at c115
                        refine gc_seq fun K47 hK47 => ?_
                        refine gc_region ?_
                        refine gl_op rfl rfl rfl (op_pure hT rfl) ?_
                        refine gl_op rfl rfl rfl (op_pure hT rfl) ?_
                        refine gl_nil ?_
                        refine hK47 _ _ ?_
                        clear hK47; try clear K47
                        refine gc_ret ?_
                        try simp only [x_then_ret, x_block_ret]
                        refine gk_ret2 rfl rfl rfl ?_
                        refine ⟨?_, hS.below⟩
                        rw [hR]
                        first
                          | done
                          | (rw [if_pos (by omega)] <;> rfl)
                          | (rw [if_neg (by omega), if_pos (by omega)] <;> rfl)
                          | (rw [if_neg (by omega), if_neg (by omega)] <;> rfl)
                          | (rw [show (1 : Int) + i + (p.G.length : Nat) = 1 + (p.G.length : Nat) + i by omega] <;> rfl)
                          | trace_state
                      · try simp only [decide_eq_true_eq, decide_eq_false_iff_not, Bool.not_eq_true', Bool.not_eq_false', Int.not_lt, Int.not_le, Nat.not_lt, Nat.not_le, Bool.true_eq, Bool.false_eq, reduceCtorEq] at c115
                        refine gc_skip ?_
                        refine hK43 _ _ ?_
                        clear hK43; try clear K43
                        refine gc_seq fun K48 hK48 => ?_
                        refine gc_region ?_
                        refine gl_op rfl rfl rfl (op_pure hT rfl) ?_
                        refine gl_op rfl rfl rfl (op_pure hT rfl) ?_
                        refine gl_nil ?_
                        refine hK48 _ _ ?_
                        clear hK48; try clear K48
                        refine gc_ret ?_
                        try simp only [x_then_ret, x_block_ret]
                        refine gk_ret2 rfl rfl rfl ?_
                        refine ⟨?_, hS.below⟩
                        rw [hR]
                        first
                          | done
                          | (rw [if_pos (by omega)] <;> rfl)
                          | (rw [if_neg (by omega), if_pos (by omega)] <;> rfl)
                          | (rw [if_neg (by omega), if_neg (by omega)] <;> rfl)
                          | (rw [show (1 : Int) + i + (p.G.length : Nat) = 1 + (p.G.length : Nat) + i by omega] <;> rfl)
                          | trace_state
end Go.Proofs.YtnomlloaahoceaaDoor

