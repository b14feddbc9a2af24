/- Contracts of functions that CodeNetBytes reaches, and words to say them. No condition. -/
import Derived.Test.YtnomlloaahoceaaGreatDoorZ10
import Derived.Test.YtnomlloaahoceaaGreatDoorZ03
import Derived.Test.YtnomlloaahoceaaGreatDoorZ02
import Derived.Test.YtnomlloaahoceaaGreatDoorZ04
/- Contracts of package model: model.CheckProp. No condition. -/
namespace Go.Proofs.YtnomlloaahoceaaGreatDoor
open Go.RowKit
set_option linter.unusedVariables false
set_option linter.unusedSimpArgs false
theorem list_calls (A : Option Addr) (m c : Nat) (l : List Nat) (n : Int) (w : World) {ok : Nat → Prop} (h1 : RdE w ok fV A l) (hn : m = l.length) (hl : l.length ≤ 17592186044416) (hf : ∀ u ∈ l, u < 18446744073709551616) :
 Calls Tryz.prog 97 ⟨[.slice A m c, .int .i64 n]⟩ w fun e w' => e = .returned (.int .i64 (listV l n)) ∧ Eqv w w' := by
 subst hn
 refine gc_enter (N := 14) Tryz.func97 rfl rfl rfl [(0, _), (1, _)] rfl ?_
 have hS := St.start w
 refine gc_seq fun K1 hK1 => gc_region (Zp rfl (gl_nil (hK1 _ _ (gc_seq fun K2 hK2 => gc_block (gc_seq fun K3 hK3 => gc_region (Zp rfl (Zp rfl (Zp rfl (Zp rfl (Zp rfl (gl_nil (hK3 _ _ (gc_cond rfl rfl (fun c5 => ?_) (fun c5 => ?_))))))))))))))
 ·simp only [NN, reduceCtorEq] at c5
  refine gc_seq fun K4 hK4 => gc_region (Zp rfl (gl_nil (hK4 _ _ (gc_ret ?_))))
  simp only [XR]
  refine gk_ret1 rfl rfl ?_
  exact ⟨by unfold listV; rw [if_pos c5], Eqv.refl _⟩
 simp only [NN, reduceCtorEq] at c5
 refine gc_seq fun K5 hK5 => gc_region (Zp rfl (gl_callf rfl rfl rfl rfl Tryz.func110 rfl rfl rfl (numbers_calls _ _ _ l _ (h1.old hS) rfl hl hf) ?_))
 rintro _ _ ⟨rfl, n12, rfl⟩
 refine ⟨_, rfl, ?_⟩
 have hS := hS.dr n12
 refine Zp rfl (Zp rfl (gl_nil (hK5 _ _ (gc_cond rfl rfl (fun c10 => ?_) (fun c10 => ?_)))))
 ·simp only [NN, reduceCtorEq] at c10
  refine gc_seq fun K6 hK6 => gc_region (Zp rfl (gl_nil (hK6 _ _ (gc_ret ?_))))
  simp only [XR]
  refine gk_ret1 rfl rfl ?_
  exact ⟨by unfold listV; rw [if_neg (by omega), if_pos c10], ⟨_, rfl⟩⟩
 simp only [NN, reduceCtorEq] at c10
 refine gc_skip (hK2 _ _ (gc_seq fun K7 hK7 => gc_region (Zp rfl (gl_nil (hK7 _ _ (gc_ret (gk_ret1 rfl rfl ?_)))))))
 exact ⟨by unfold listV; rw [if_neg (by omega), if_neg (by rw [c10]; simp)], ⟨_, rfl⟩⟩
structure LsM (w : World) (ok : Nat → Prop) (A : Option Addr) (S : List Sv) (ls : List (List Nat)) : Prop where
 rS : RdE w ok svV A S
 len : S.length = ls.length
 rd : ∀ (i : Nat) x l, S[i]? = some x → ls[i]? = some l → RdE w ok fV x.1 l ∧ x.2.1 = l.length ∧ l.length ≤ 17592186044416 ∧ ∀ u ∈ l, u < 18446744073709551616
theorem LsM.old {w w' : World} {ok : Nat → Prop} {A : Option Addr} {S : List Sv} {ls : List (List Nat)} {L0 : List It} (h : LsM w ok A S ls) (hS : St w.heap.size w w' L0) : LsM w' ok A S ls :=
 ⟨h.rS.old hS, h.len, fun i x l h1 h2 => ⟨(h.rd i x l h1 h2).1.old hS, (h.rd i x l h1 h2).2⟩⟩
theorem LsM.eqv {w w' : World} {ok : Nat → Prop} {A : Option Addr} {S : List Sv} {ls : List (List Nat)} (h : LsM w ok A S ls) (he : Eqv w w') : LsM w' ok A S ls :=
 ⟨h.rS.eqv he, h.len, fun i x l h1 h2 => ⟨(h.rd i x l h1 h2).1.eqv he, (h.rd i x l h1 h2).2⟩⟩
theorem lists_calls (A : Option Addr) (m c : Nat) (S : List Sv) (ls : List (List Nat)) (n f : Int) (w : World) {ok : Nat → Prop} (hm : LsM w ok A S ls) (hn : m = ls.length) (hl : ls.length ≤ 17592186044416) (hf : 0 ≤ f ∧ f ≤ 17592186044416) :
 Calls Tryz.prog 98 ⟨[.slice A m c, .int .i64 n, .int .i64 f]⟩ w fun e w' => e = .returned (.tuple #[.int .i64 (listsGo n f ls).1, .int .i64 (if (listsGo n f ls).1 = 0 then 0 else (listsGo n f ls).2)]) ∧ Eqv w w' := by
 have hlen := hm.len
 subst hn
 refine gc_enter (N := 28) Tryz.func98 rfl rfl rfl [(0, _), (1, _), (2, _)] rfl ?_
 refine gc_seq fun K1 hK1 => gc_region (Zp rfl (Zp rfl (gl_nil (hK1 _ _ (gc_seq fun K2 hK2 => gc_seq fun K3 hK3 => gc_region (Zp rfl (Zp rfl (Zp rfl (gl_nil (hK3 _ _ (gc_block (gc_loop (fun k a w' => ∃ i : Nat, Fr 28 a [(1, .int .i64 n), (2, .int .i64 f), (11, .slice A ls.length c), (12, .int .i64 (ls.length : Nat)), (13, .int .i64 (i : Nat))] ∧ i ≤ ls.length ∧ k = ls.length - i + 1 ∧ listsGo n f ls = listsGo n (f + i) (ls.drop i) ∧ Eqv w w') (ls.length + 1) ?_ ?_ ?_))))))))))))
 ·intro a ha; exact ⟨0, ha.sub ⟨rfl, rfl, rfl, rfl, rfl, trivial⟩, by omega, by omega, by simp, Eqv.refl _⟩
 ·rintro a w ⟨i, _, h1, h2, _⟩; omega
 rintro k a _ ⟨i, hF, hi, hk, hj, q, rfl⟩
 refine gc_of hF ?_
 refine gc_seq fun K4 hK4 => gc_region (Zp rfl (gl_nil (hK4 _ _ (gc_seq fun K5 hK5 => gc_cond rfl rfl (fun c14 => ?_) (fun c14 => ?_)))))
 ·simp only [NN, reduceCtorEq] at c14
  refine gc_skip (hK5 _ _ (gc_seq fun K6 hK6 => gc_block (gc_seq fun K7 hK7 => gc_region (Zp rfl ?_))))
  have hil : i < ls.length := by omega
  obtain ⟨l, hu⟩ : ∃ l, ls[i]? = some l := ⟨_, List.getElem?_eq_getElem hil⟩
  obtain ⟨x, hx⟩ : ∃ x, S[i]? = some x := ⟨_, List.getElem?_eq_getElem (by omega)⟩
  have hdrop : ls.drop i = l :: ls.drop (i + 1) := by
   rw [List.drop_eq_getElem_cons hil]
   have : ls[i] = l := by rw [List.getElem?_eq_getElem hil] at hu; exact Option.some.inj hu
   rw [this]
  have hjl : listsGo n f ls = if listV l n ≠ 0 then (listV l n, f + i) else listsGo n (f + i + 1) (ls.drop (i + 1)) := by rw [hj, hdrop]; rfl
  obtain ⟨ad, hA, hc⟩ := (hm.rS.eqv ⟨q, rfl⟩).at (none, 0, 0) (i := (i : Int)) (by omega) (by omega)
  have hug : S.getD ((i : Int)).toNat (none, 0, 0) = x := by rw [Int.toNat_natCast, List.getD_eq_getElem?_getD, hx]; rfl
  rw [hug] at hc
  have hr := (hm.eqv ⟨q, rfl⟩).rd i x l hx hu
  refine gl_op rfl rfl rfl (op_indexAddr hT rfl rfl el45.cellsOf.1 el45.cellsOf.2 rfl rfl (by omega) (by omega) hA) ?_
  refine gl_op rfl rfl rfl (op_load hT rfl rfl rfl rfl hc) ?_
  refine Zp rfl (Zp rfl (gl_nil (hK7 _ _ (gc_seq fun K8 hK8 => gc_region (Zp rfl (Zp rfl (gl_callf rfl rfl rfl rfl Tryz.func97 rfl rfl rfl (list_calls _ _ _ l n _ hr.1 hr.2.1 hr.2.2.1 hr.2.2.2) ?_)))))))
  rintro _ _ ⟨rfl, n20, rfl⟩
  refine ⟨_, rfl, ?_⟩
  refine Zp rfl (gl_nil (hK8 _ _ (gc_seq fun K9 hK9 => gc_region (Zp rfl (Zp rfl (gl_nil (hK9 _ _ (gc_cond rfl rfl (fun c22 => ?_) (fun c22 => ?_)))))))))
  ·simp only [NN, reduceCtorEq] at c22
   refine gc_seq fun K10 hK10 => gc_region (Zp rfl (Zp rfl (Zp rfl (Zi rfl (by omega) ?_))))
   refine Zp rfl (Zp rfl (gl_nil (hK10 _ _ (gc_ret ?_))))
   simp only [XR]
   refine gk_ret2 rfl rfl rfl ?_
   rw [if_pos c22] at hjl
   exact ⟨by rw [hjl, if_neg c22], Eqv.trans ⟨q, rfl⟩ ⟨_, rfl⟩⟩
  simp only [NN, reduceCtorEq] at c22
  refine gc_skip (hK6 _ _ (gc_region (Zi rfl (by omega) ?_)))
  refine Zp rfl (gl_nil ?_)
  intro a ha
  rw [if_neg (by rw [c22]; simp)] at hjl
  exact ⟨i + 1, ha.sub ⟨rfl, rfl, rfl, rfl, rfl, trivial⟩, by omega, by omega, by rw [hjl, show f + ((i + 1 : Nat) : Int) = f + i + 1 by omega], Eqv.trans ⟨q, rfl⟩ ⟨_, rfl⟩⟩
 simp only [NN, reduceCtorEq] at c14
 refine gc_exit ?_
 refine hK2 _ _ (gc_seq fun K11 hK11 => gc_region (Zp rfl (Zp rfl (gl_nil (hK11 _ _ (gc_ret (gk_ret2 rfl rfl rfl ?_)))))))
 have hie : ls.drop i = [] := List.drop_eq_nil_of_le (by omega)
 rw [hie] at hj
 have hj : listsGo n f ls = (0, 0) := hj
 exact ⟨by rw [hj]; rfl, ⟨q, rfl⟩⟩
@[reducible] def propC (C G M : Sv) (p : Px) : List Value := [svV C, svV G, .int .i64 p.T, svV M, .int .i64 p.K, .int .i64 p.D, .int .i64 p.S]
structure PrM (w : World) (ok : Nat → Prop) (C G M : Sv) (SG SM : List Sv) (p : Px) : Prop where
 rC : RdE w ok fV C.1 p.C
 nC : C.2.1 = p.C.length
 lC : p.C.length ≤ 17592186044416
 fC : ∀ u ∈ p.C, u < 18446744073709551616
 rG : LsM w ok G.1 SG p.G
 nG : G.2.1 = p.G.length
 lG : p.G.length ≤ 17592186044416
 rM : LsM w ok M.1 SM p.M
 nM : M.2.1 = p.M.length
 lM : p.M.length ≤ 17592186044416
 iT : i64 p.T
 iK : i64 p.K
 iD : i64 p.D
 iS : i64 p.S
set_option maxRecDepth 100000 in
theorem checkProp_calls (C G M : Sv) (SG SM : List Sv) (p : Px) (n out : Int) (w : World) {ok : Nat → Prop} (D : PrM w ok C G M SG SM p) :
 Calls Tryz.prog 75 ⟨[.agg ⟨propC C G M p⟩, .int .i64 n, .int .i64 out]⟩ w fun e w' => e = .returned (.tuple #[.int .i64 (propV p n out).1, .int .i64 (propV p n out).2]) ∧ Below w.heap.size w w' := by
 obtain ⟨G1, G2, G3⟩ := G
 obtain ⟨M1, M2, M3⟩ := M
 have hnC := D.nC
 have hnG := D.nG
 have hnM := D.nM
 have hlG := D.lG
 have hlM := D.lM
 simp only at hnG hnM
 subst hnG
 subst hnM
 obtain ⟨R, hR⟩ : ∃ R, R = propV p n out := ⟨_, rfl⟩
 rw [← hR]
 unfold propV at hR
 refine gc_enter (N := 119) Tryz.func75 rfl rfl rfl [(0, _), (1, _), (2, _)] rfl ?_
 have hS := St.start w
 refine gc_seq fun K1 hK1 => gc_region (gl_box hS rfl rfl rfl rfl rfl fun g3 w3 hS => ?_)
 refine Zp rfl (Zp rfl (gl_nil (hK1 _ _ (gc_seq fun K2 hK2 => gc_seq fun K3 hK3 => gc_region (Zp rfl (Zp rfl (Zp rfl (gl_split (t := 15) rfl (fun c15 => ?_) (fun c15 => ?_)))))))))
 ·simp only [NN, reduceCtorEq] at c15
  refine Zs rfl (Zs rfl (Zp rfl (Zp rfl (Zs rfl (Zs rfl (Zp rfl (Zp rfl (Zs rfl (Zs rfl (Zp rfl (gl_nil (hK3 _ _ (gc_cond_t rfl (gc_seq fun K4 hK4 => gc_region (Zp rfl (Zp rfl (gl_nil (hK4 _ _ (gc_ret ?_)))))))))))))))))))
  simp only [XR]
  refine gk_ret2 rfl rfl rfl ?_
  refine ⟨?_, hS.below⟩
  rw [hR]
  rw [if_pos (by omega)] <;> rfl
 simp only [NN, reduceCtorEq] at c15
 refine Zu rfl (Zp rfl (Zu rfl (Zp rfl (Zp rfl (Zp rfl (gl_split (t := 19) rfl (fun c19 => ?_) (fun c19 => ?_)))))))
 ·simp only [NN, reduceCtorEq] at c19
  refine Zs rfl (Zs rfl (Zp rfl (Zp rfl (Zs rfl (Zs rfl (Zp rfl (gl_nil (hK3 _ _ (gc_cond_t rfl (gc_seq fun K5 hK5 => gc_region (Zp rfl (Zp rfl (gl_nil (hK5 _ _ (gc_ret ?_)))))))))))))))
  simp only [XR]
  refine gk_ret2 rfl rfl rfl ?_
  refine ⟨?_, hS.below⟩
  rw [hR]
  rw [if_pos (by omega)] <;> rfl
 simp only [NN, reduceCtorEq] at c19
 refine Zu rfl (Zp rfl (Zu rfl (Zp rfl (Zp rfl (Zp rfl (gl_split (t := 23) rfl (fun c23 => ?_) (fun c23 => ?_)))))))
 ·simp only [NN, reduceCtorEq] at c23
  refine Zs rfl (Zs rfl (Zp rfl (gl_nil (hK3 _ _ (gc_cond_t rfl (gc_seq fun K6 hK6 => gc_region (Zp rfl (Zp rfl (gl_nil (hK6 _ _ (gc_ret ?_)))))))))))
  simp only [XR]
  refine gk_ret2 rfl rfl rfl ?_
  refine ⟨?_, hS.below⟩
  rw [hR]
  rw [if_pos (by omega)] <;> rfl
 simp only [NN, reduceCtorEq] at c23
 refine Zu rfl (Zp rfl (Zu rfl (Zp rfl (Zp rfl (gl_nil (hK3 _ _ (gc_cond rfl rfl (fun c26 => ?_) (fun c26 => ?_))))))))
 ·simp only [NN, reduceCtorEq] at c26
  refine gc_seq fun K7 hK7 => gc_region (Zp rfl (Zp rfl (gl_nil (hK7 _ _ (gc_ret ?_)))))
  simp only [XR]
  refine gk_ret2 rfl rfl rfl ?_
  refine ⟨?_, hS.below⟩
  rw [hR]
  rw [if_pos (by omega)] <;> rfl
 simp only [NN, reduceCtorEq] at c26
 refine gc_skip (hK2 _ _ (gc_seq fun K8 hK8 => gc_seq fun K9 hK9 => gc_region (Zf 0 Tryz.underlying53 rfl el45 (Zb 0 hS rfl (Zp rfl (gl_callf rfl rfl rfl rfl Tryz.func97 rfl rfl rfl (list_calls _ _ _ p.C n _ (D.rC.old hS) D.nC D.lC D.fC) ?_))))))
 rintro _ _ ⟨rfl, n30, rfl⟩
 refine ⟨_, rfl, ?_⟩
 have hS := hS.dr n30
 refine Zp rfl (gl_nil (hK9 _ _ (gc_seq fun K10 hK10 => gc_region (Zp rfl (Zp rfl (gl_nil (hK10 _ _ (gc_cond rfl rfl (fun c32 => ?_) (fun c32 => ?_)))))))))
 ·simp only [NN, reduceCtorEq] at c32
  refine gc_seq fun K11 hK11 => gc_region (Zp rfl (Zp rfl (Zp rfl (gl_nil (hK11 _ _ (gc_ret ?_))))))
  simp only [XR]
  refine gk_ret2 rfl rfl rfl ?_
  refine ⟨?_, hS.below⟩
  rw [hR]
  rw [if_neg (by omega), if_pos (by omega)] <;> rfl
 simp only [NN, reduceCtorEq] at c32
 refine gc_skip (hK8 _ _ (gc_seq fun K12 hK12 => gc_seq fun K13 hK13 => gc_region (Zf 1 Tryz.underlying53 rfl el51 (Zb 0 hS rfl (Zp rfl (Zp rfl (gl_nil (hK13 _ _ (gc_cond rfl rfl (fun c37 => ?_) (fun c37 => ?_))))))))))
 ·simp only [NN, reduceCtorEq] at c37
  refine gc_seq fun K14 hK14 => gc_region (Zp rfl (Zp rfl (gl_nil (hK14 _ _ (gc_ret ?_)))))
  simp only [XR]
  refine gk_ret2 rfl rfl rfl ?_
  refine ⟨?_, hS.below⟩
  rw [hR]
  rw [if_neg (by omega), if_neg (by omega), if_pos (by omega)] <;> rfl
 simp only [NN, reduceCtorEq] at c37
 refine gc_skip (hK12 _ _ (gc_seq fun K15 hK15 => gc_seq fun K16 hK16 => gc_region (Zf 1 Tryz.underlying53 rfl el51 (Zb 0 hS rfl (Zp rfl (gl_callf rfl rfl rfl rfl Tryz.func98 rfl rfl rfl (lists_calls _ _ _ SG p.G n 1 _ (D.rG.old hS) rfl D.lG ⟨by decide, by decide⟩) ?_))))))
 rintro _ _ ⟨rfl, n42, rfl⟩
 refine ⟨_, rfl, ?_⟩
 have hS := hS.dr n42
 refine Zp rfl (Zp rfl (Zp rfl (Zp rfl (Zp rfl (gl_nil (hK16 _ _ (gc_seq fun K17 hK17 => gc_region (Zp rfl (Zp rfl (gl_nil (hK17 _ _ (gc_cond rfl rfl (fun c46 => ?_) (fun c46 => ?_)))))))))))))
 ·simp only [NN, reduceCtorEq] at c46
  rw [if_neg c46]
  refine gc_seq fun K18 hK18 => gc_region (Zp rfl (Zp rfl (Zp rfl (Zp rfl (gl_nil (hK18 _ _ (gc_ret ?_)))))))
  simp only [XR]
  refine gk_ret2 rfl rfl rfl ?_
  refine ⟨?_, hS.below⟩
  rw [hR]
  rw [if_neg (by omega), if_neg (by omega), if_neg (by omega), if_pos (by omega)] <;> rfl
 simp only [NN, reduceCtorEq] at c46
 refine gc_skip (hK15 _ _ (gc_seq fun K19 hK19 => gc_seq fun K20 hK20 => gc_region (Zf 2 Tryz.underlying53 rfl el3 (Zb 0 hS rfl (Zp rfl (Zp rfl (gl_split (t := 52) rfl (fun c52 => ?_) (fun c52 => ?_))))))))
 ·simp only [NN, reduceCtorEq] at c52
  refine Zs rfl (Zs rfl (Zs rfl (Zs rfl (Zp rfl (gl_nil (hK20 _ _ (gc_cond_t rfl (gc_seq fun K21 hK21 => gc_region (Zp rfl (Zp rfl (gl_nil (hK21 _ _ (gc_ret ?_)))))))))))))
  simp only [XR]
  refine gk_ret2 rfl rfl rfl ?_
  refine ⟨?_, hS.below⟩
  rw [hR]
  rw [if_neg (by omega), if_neg (by omega), if_neg (by omega), if_neg (by omega), if_pos (by omega)] <;> rfl
 simp only [NN, reduceCtorEq] at c52
 refine Zu rfl (Zf 2 Tryz.underlying53 rfl el3 (Zu rfl (Zb 0 hS rfl (Zu rfl (Zp rfl (Zu rfl (Zp rfl (Zp rfl (gl_nil (hK20 _ _ (gc_cond rfl rfl (fun c57 => ?_) (fun c57 => ?_))))))))))))
 ·simp only [NN, reduceCtorEq] at c57
  refine gc_seq fun K22 hK22 => gc_region (Zp rfl (Zp rfl (gl_nil (hK22 _ _ (gc_ret ?_)))))
  simp only [XR]
  refine gk_ret2 rfl rfl rfl ?_
  refine ⟨?_, hS.below⟩
  rw [hR]
  rw [if_neg (by omega), if_neg (by omega), if_neg (by omega), if_neg (by omega), if_pos (by omega)] <;> rfl
 simp only [NN, reduceCtorEq] at c57
 refine gc_skip (hK19 _ _ (gc_seq fun K23 hK23 => gc_seq fun K24 hK24 => gc_region (Zf 3 Tryz.underlying53 rfl el51 (Zb 0 hS rfl (Zp rfl (Zp rfl (gl_nil (hK24 _ _ (gc_cond rfl rfl (fun c61 => ?_) (fun c61 => ?_))))))))))
 ·simp only [NN, reduceCtorEq] at c61
  refine gc_seq fun K25 hK25 => gc_region (Zp rfl (Zp rfl (gl_nil (hK25 _ _ (gc_ret ?_)))))
  simp only [XR]
  refine gk_ret2 rfl rfl rfl ?_
  refine ⟨?_, hS.below⟩
  rw [hR]
  rw [if_neg (by omega), if_neg (by omega), if_neg (by omega), if_neg (by omega), if_neg (by omega), if_pos (by omega)] <;> rfl
 simp only [NN, reduceCtorEq] at c61
 refine gc_skip (hK23 _ _ (gc_seq fun K26 hK26 => gc_seq fun K27 hK27 => gc_region (Zf 3 Tryz.underlying53 rfl el51 (Zb 0 hS rfl (Zp rfl (Zi rfl (by omega) ?_))))))
 refine Zf 1 Tryz.underlying53 rfl el51 (Zb 0 hS rfl (Zp rfl (gl_fit hT rfl rfl rfl rfl (by dsimp only; omega) ?_)))
 refine gl_callf rfl rfl rfl rfl Tryz.func98 rfl rfl rfl (lists_calls _ _ _ SM p.M (out + 1) _ _ (D.rM.old hS) rfl D.lM ⟨by omega, by dsimp only; omega⟩) ?_
 rintro _ _ ⟨rfl, n71, rfl⟩
 refine ⟨_, rfl, ?_⟩
 have hS := hS.dr n71
 refine Zp rfl (Zp rfl (Zp rfl (Zp rfl (Zp rfl (gl_nil (hK27 _ _ (gc_seq fun K28 hK28 => gc_region (Zp rfl (Zp rfl (gl_nil (hK28 _ _ (gc_cond rfl rfl (fun c75 => ?_) (fun c75 => ?_)))))))))))))
 ·simp only [NN, reduceCtorEq] at c75
  rw [if_neg c75]
  refine gc_seq fun K29 hK29 => gc_region (Zp rfl (Zp rfl (Zp rfl (Zp rfl (gl_nil (hK29 _ _ (gc_ret ?_)))))))
  simp only [XR]
  refine gk_ret2 rfl rfl rfl ?_
  refine ⟨?_, hS.below⟩
  rw [hR]
  rw [if_neg (by omega), if_neg (by omega), if_neg (by omega), if_neg (by omega), if_neg (by omega), if_neg (by omega), if_pos (by omega)] <;> rfl
 simp only [NN, reduceCtorEq] at c75
 refine gc_skip (hK26 _ _ (gc_seq fun K30 hK30 => gc_seq fun K31 hK31 => gc_region (Zf 3 Tryz.underlying53 rfl el51 (Zb 0 hS rfl (Zp rfl (Zp rfl (Zp rfl (gl_split (t := 82) rfl (fun c82 => ?_) (fun c82 => ?_)))))))))
 ·simp only [NN, reduceCtorEq] at c82
  refine Zu rfl (Zf 2 Tryz.underlying53 rfl el3 (Zu rfl (Zb 0 hS rfl (Zu rfl (Zp rfl (Zu rfl (Zp rfl (gl_split (t := 86) rfl (fun c86 => ?_) (fun c86 => ?_)))))))))
  ·simp only [NN, reduceCtorEq] at c86
   refine Zs rfl (Zs rfl (Zu rfl (Zp rfl (Zp rfl (gl_nil (hK31 _ _ (gc_cond_t rfl (gc_seq fun K32 hK32 => gc_region (Zp rfl (Zp rfl (gl_nil (hK32 _ _ (gc_ret ?_)))))))))))))
   simp only [XR]
   refine gk_ret2 rfl rfl rfl ?_
   refine ⟨?_, hS.below⟩
   rw [hR]
   rw [if_neg (by omega), if_neg (by omega), if_neg (by omega), if_neg (by omega), if_neg (by omega), if_neg (by omega), if_neg (by omega), if_pos (by omega)] <;> rfl
  simp only [NN, reduceCtorEq] at c86
  refine Zu rfl (Zp rfl (Zu rfl (Zp rfl (Zu rfl (Zp rfl (Zp rfl (gl_nil (hK31 _ _ (gc_cond rfl rfl (fun c90 => ?_) (fun c90 => ?_))))))))))
  ·simp only [NN, reduceCtorEq] at c90
   refine gc_seq fun K33 hK33 => gc_region (Zp rfl (Zp rfl (gl_nil (hK33 _ _ (gc_ret ?_)))))
   simp only [XR]
   refine gk_ret2 rfl rfl rfl ?_
   refine ⟨?_, hS.below⟩
   rw [hR]
   rw [if_neg (by omega), if_neg (by omega), if_neg (by omega), if_neg (by omega), if_neg (by omega), if_neg (by omega), if_neg (by omega), if_pos (by omega)] <;> rfl
  simp only [NN, reduceCtorEq] at c90
  refine gc_skip (hK30 _ _ (gc_seq fun K34 hK34 => gc_seq fun K35 hK35 => gc_region (Zf 4 Tryz.underlying53 rfl el3 (Zb 0 hS rfl (Zp rfl (Zp rfl (gl_split (t := 94) rfl (fun c94 => ?_) (fun c94 => ?_))))))))
  ·simp only [NN, reduceCtorEq] at c94
   refine Zs rfl (Zs rfl (Zs rfl (Zp rfl (Zp rfl (Zs rfl (Zs rfl (Zs rfl (Zp rfl (Zp rfl (Zs rfl (Zs rfl (Zs rfl (Zp rfl (Zp rfl (Zs rfl (Zs rfl (Zs rfl (Zp rfl (Zp rfl (Zs rfl (Zs rfl (Zs rfl (Zp rfl (gl_nil (hK35 _ _ (gc_cond_t rfl (gc_seq fun K36 hK36 => gc_region (Zp rfl (Zp rfl (gl_nil (hK36 _ _ (gc_ret ?_))))))))))))))))))))))))))))))))
   simp only [XR]
   refine gk_ret2 rfl rfl rfl ?_
   refine ⟨?_, hS.below⟩
   rw [hR]
   rw [if_neg (by omega), if_neg (by omega), if_neg (by omega), if_neg (by omega), if_neg (by omega), if_neg (by omega), if_neg (by omega), if_neg (by omega), if_pos (by omega)] <;> rfl
  simp only [NN, reduceCtorEq] at c94
  refine Zu rfl (Zf 4 Tryz.underlying53 rfl el3 (Zu rfl (Zb 0 hS rfl (Zu rfl (Zp rfl (Zp rfl (Zp rfl (gl_split (t := 99) rfl (fun c99 => ?_) (fun c99 => ?_)))))))))
  ·simp only [NN, reduceCtorEq] at c99
   refine Zs rfl (Zs rfl (Zs rfl (Zp rfl (Zp rfl (Zs rfl (Zs rfl (Zs rfl (Zp rfl (Zp rfl (Zs rfl (Zs rfl (Zs rfl (Zp rfl (Zp rfl (Zs rfl (Zs rfl (Zs rfl (Zp rfl (gl_nil (hK35 _ _ (gc_cond_t rfl (gc_seq fun K37 hK37 => gc_region (Zp rfl (Zp rfl (gl_nil (hK37 _ _ (gc_ret ?_)))))))))))))))))))))))))))
   simp only [XR]
   refine gk_ret2 rfl rfl rfl ?_
   refine ⟨?_, hS.below⟩
   rw [hR]
   rw [if_neg (by omega), if_neg (by omega), if_neg (by omega), if_neg (by omega), if_neg (by omega), if_neg (by omega), if_neg (by omega), if_neg (by omega), if_pos (by omega)] <;> rfl
  simp only [NN, reduceCtorEq] at c99
  refine Zu rfl (Zf 5 Tryz.underlying53 rfl el3 (Zu rfl (Zb 0 hS rfl (Zu rfl (Zp rfl (Zp rfl (Zp rfl (gl_split (t := 104) rfl (fun c104 => ?_) (fun c104 => ?_)))))))))
  ·simp only [NN, reduceCtorEq] at c104
   refine Zs rfl (Zs rfl (Zs rfl (Zp rfl (Zp rfl (Zs rfl (Zs rfl (Zs rfl (Zp rfl (Zp rfl (Zs rfl (Zs rfl (Zs rfl (Zp rfl (gl_nil (hK35 _ _ (gc_cond_t rfl (gc_seq fun K38 hK38 => gc_region (Zp rfl (Zp rfl (gl_nil (hK38 _ _ (gc_ret ?_))))))))))))))))))))))
   simp only [XR]
   refine gk_ret2 rfl rfl rfl ?_
   refine ⟨?_, hS.below⟩
   rw [hR]
   rw [if_neg (by omega), if_neg (by omega), if_neg (by omega), if_neg (by omega), if_neg (by omega), if_neg (by omega), if_neg (by omega), if_neg (by omega), if_pos (by omega)] <;> rfl
  simp only [NN, reduceCtorEq] at c104
  refine Zu rfl (Zf 5 Tryz.underlying53 rfl el3 (Zu rfl (Zb 0 hS rfl (Zu rfl (Zp rfl (Zp rfl (Zp rfl (gl_split (t := 109) rfl (fun c109 => ?_) (fun c109 => ?_)))))))))
  ·simp only [NN, reduceCtorEq] at c109
   refine Zs rfl (Zs rfl (Zs rfl (Zp rfl (Zp rfl (Zs rfl (Zs rfl (Zs rfl (Zp rfl (gl_nil (hK35 _ _ (gc_cond_t rfl (gc_seq fun K39 hK39 => gc_region (Zp rfl (Zp rfl (gl_nil (hK39 _ _ (gc_ret ?_)))))))))))))))))
   simp only [XR]
   refine gk_ret2 rfl rfl rfl ?_
   refine ⟨?_, hS.below⟩
   rw [hR]
   rw [if_neg (by omega), if_neg (by omega), if_neg (by omega), if_neg (by omega), if_neg (by omega), if_neg (by omega), if_neg (by omega), if_neg (by omega), if_pos (by omega)] <;> rfl
  simp only [NN, reduceCtorEq] at c109
  refine Zu rfl (Zf 6 Tryz.underlying53 rfl el3 (Zu rfl (Zb 0 hS rfl (Zu rfl (Zp rfl (Zp rfl (Zp rfl (gl_split (t := 114) rfl (fun c114 => ?_) (fun c114 => ?_)))))))))
  ·simp only [NN, reduceCtorEq] at c114
   refine Zs rfl (Zs rfl (Zs rfl (Zp rfl (gl_nil (hK35 _ _ (gc_cond_t rfl (gc_seq fun K40 hK40 => gc_region (Zp rfl (Zp rfl (gl_nil (hK40 _ _ (gc_ret ?_))))))))))))
   simp only [XR]
   refine gk_ret2 rfl rfl rfl ?_
   refine ⟨?_, hS.below⟩
   rw [hR]
   rw [if_neg (by omega), if_neg (by omega), if_neg (by omega), if_neg (by omega), if_neg (by omega), if_neg (by omega), if_neg (by omega), if_neg (by omega), if_pos (by omega)] <;> rfl
  simp only [NN, reduceCtorEq] at c114
  refine Zu rfl (Zf 6 Tryz.underlying53 rfl el3 (Zu rfl (Zb 0 hS rfl (Zu rfl (Zp rfl (Zp rfl (gl_nil (hK35 _ _ (gc_cond rfl rfl (fun c118 => ?_) (fun c118 => ?_))))))))))
  ·simp only [NN, reduceCtorEq] at c118
   refine gc_seq fun K41 hK41 => gc_region (Zp rfl (Zp rfl (gl_nil (hK41 _ _ (gc_ret ?_)))))
   simp only [XR]
   refine gk_ret2 rfl rfl rfl ?_
   refine ⟨?_, hS.below⟩
   rw [hR]
   rw [if_neg (by omega), if_neg (by omega), if_neg (by omega), if_neg (by omega), if_neg (by omega), if_neg (by omega), if_neg (by omega), if_neg (by omega), if_pos (by omega)] <;> rfl
  simp only [NN, reduceCtorEq] at c118
  refine gc_skip (hK34 _ _ (gc_seq fun K42 hK42 => gc_region (Zp rfl (Zp rfl (gl_nil (hK42 _ _ (gc_ret ?_)))))))
  simp only [XR]
  refine gk_ret2 rfl rfl rfl ?_
  refine ⟨?_, hS.below⟩
  rw [hR]
  rw [if_neg (by omega), if_neg (by omega), if_neg (by omega), if_neg (by omega), if_neg (by omega), if_neg (by omega), if_neg (by omega), if_neg (by omega), if_neg (by omega)] <;> rfl
 simp only [NN, reduceCtorEq] at c82
 refine Zs rfl (Zs rfl (Zs rfl (Zs rfl (gl_none rfl rfl rfl rfl rfl ?_))))
 refine gl_none rfl rfl rfl rfl rfl ?_
 refine Zs rfl (Zp rfl (gl_nil (hK31 _ _ (gc_cond_f rfl (gc_skip (hK30 _ _ (gc_seq fun K43 hK43 => gc_seq fun K44 hK44 => gc_region (Zf 4 Tryz.underlying53 rfl el3 (Zb 0 hS rfl (Zp rfl (Zp rfl (gl_split (t := 94) rfl (fun c94 => ?_) (fun c94 => ?_)))))))))))))
 ·simp only [NN, reduceCtorEq] at c94
  refine Zs rfl (Zs rfl (Zs rfl (Zp rfl (Zp rfl (Zs rfl (Zs rfl (Zs rfl (Zp rfl (Zp rfl (Zs rfl (Zs rfl (Zs rfl (Zp rfl (Zp rfl (Zs rfl (Zs rfl (Zs rfl (Zp rfl (Zp rfl (Zs rfl (Zs rfl (Zs rfl (Zp rfl (gl_nil (hK44 _ _ (gc_cond_t rfl (gc_seq fun K45 hK45 => gc_region (Zp rfl (Zp rfl (gl_nil (hK45 _ _ (gc_ret ?_))))))))))))))))))))))))))))))))
  simp only [XR]
  refine gk_ret2 rfl rfl rfl ?_
  refine ⟨?_, hS.below⟩
  rw [hR]
  rw [if_neg (by omega), if_neg (by omega), if_neg (by omega), if_neg (by omega), if_neg (by omega), if_neg (by omega), if_neg (by omega), if_neg (by omega), if_pos (by omega)] <;> rfl
 simp only [NN, reduceCtorEq] at c94
 refine Zu rfl (Zf 4 Tryz.underlying53 rfl el3 (Zu rfl (Zb 0 hS rfl (Zu rfl (Zp rfl (Zp rfl (Zp rfl (gl_split (t := 99) rfl (fun c99 => ?_) (fun c99 => ?_)))))))))
 ·simp only [NN, reduceCtorEq] at c99
  refine Zs rfl (Zs rfl (Zs rfl (Zp rfl (Zp rfl (Zs rfl (Zs rfl (Zs rfl (Zp rfl (Zp rfl (Zs rfl (Zs rfl (Zs rfl (Zp rfl (Zp rfl (Zs rfl (Zs rfl (Zs rfl (Zp rfl (gl_nil (hK44 _ _ (gc_cond_t rfl (gc_seq fun K46 hK46 => gc_region (Zp rfl (Zp rfl (gl_nil (hK46 _ _ (gc_ret ?_)))))))))))))))))))))))))))
  simp only [XR]
  refine gk_ret2 rfl rfl rfl ?_
  refine ⟨?_, hS.below⟩
  rw [hR]
  rw [if_neg (by omega), if_neg (by omega), if_neg (by omega), if_neg (by omega), if_neg (by omega), if_neg (by omega), if_neg (by omega), if_neg (by omega), if_pos (by omega)] <;> rfl
 simp only [NN, reduceCtorEq] at c99
 refine Zu rfl (Zf 5 Tryz.underlying53 rfl el3 (Zu rfl (Zb 0 hS rfl (Zu rfl (Zp rfl (Zp rfl (Zp rfl (gl_split (t := 104) rfl (fun c104 => ?_) (fun c104 => ?_)))))))))
 ·simp only [NN, reduceCtorEq] at c104
  refine Zs rfl (Zs rfl (Zs rfl (Zp rfl (Zp rfl (Zs rfl (Zs rfl (Zs rfl (Zp rfl (Zp rfl (Zs rfl (Zs rfl (Zs rfl (Zp rfl (gl_nil (hK44 _ _ (gc_cond_t rfl (gc_seq fun K47 hK47 => gc_region (Zp rfl (Zp rfl (gl_nil (hK47 _ _ (gc_ret ?_))))))))))))))))))))))
  simp only [XR]
  refine gk_ret2 rfl rfl rfl ?_
  refine ⟨?_, hS.below⟩
  rw [hR]
  rw [if_neg (by omega), if_neg (by omega), if_neg (by omega), if_neg (by omega), if_neg (by omega), if_neg (by omega), if_neg (by omega), if_neg (by omega), if_pos (by omega)] <;> rfl
 simp only [NN, reduceCtorEq] at c104
 refine Zu rfl (Zf 5 Tryz.underlying53 rfl el3 (Zu rfl (Zb 0 hS rfl (Zu rfl (Zp rfl (Zp rfl (Zp rfl (gl_split (t := 109) rfl (fun c109 => ?_) (fun c109 => ?_)))))))))
 ·simp only [NN, reduceCtorEq] at c109
  refine Zs rfl (Zs rfl (Zs rfl (Zp rfl (Zp rfl (Zs rfl (Zs rfl (Zs rfl (Zp rfl (gl_nil (hK44 _ _ (gc_cond_t rfl (gc_seq fun K48 hK48 => gc_region (Zp rfl (Zp rfl (gl_nil (hK48 _ _ (gc_ret ?_)))))))))))))))))
  simp only [XR]
  refine gk_ret2 rfl rfl rfl ?_
  refine ⟨?_, hS.below⟩
  rw [hR]
  rw [if_neg (by omega), if_neg (by omega), if_neg (by omega), if_neg (by omega), if_neg (by omega), if_neg (by omega), if_neg (by omega), if_neg (by omega), if_pos (by omega)] <;> rfl
 simp only [NN, reduceCtorEq] at c109
 refine Zu rfl (Zf 6 Tryz.underlying53 rfl el3 (Zu rfl (Zb 0 hS rfl (Zu rfl (Zp rfl (Zp rfl (Zp rfl (gl_split (t := 114) rfl (fun c114 => ?_) (fun c114 => ?_)))))))))
 ·simp only [NN, reduceCtorEq] at c114
  refine Zs rfl (Zs rfl (Zs rfl (Zp rfl (gl_nil (hK44 _ _ (gc_cond_t rfl (gc_seq fun K49 hK49 => gc_region (Zp rfl (Zp rfl (gl_nil (hK49 _ _ (gc_ret ?_))))))))))))
  simp only [XR]
  refine gk_ret2 rfl rfl rfl ?_
  refine ⟨?_, hS.below⟩
  rw [hR]
  rw [if_neg (by omega), if_neg (by omega), if_neg (by omega), if_neg (by omega), if_neg (by omega), if_neg (by omega), if_neg (by omega), if_neg (by omega), if_pos (by omega)] <;> rfl
 simp only [NN, reduceCtorEq] at c114
 refine Zu rfl (Zf 6 Tryz.underlying53 rfl el3 (Zu rfl (Zb 0 hS rfl (Zu rfl (Zp rfl (Zp rfl (gl_nil (hK44 _ _ (gc_cond rfl rfl (fun c118 => ?_) (fun c118 => ?_))))))))))
 ·simp only [NN, reduceCtorEq] at c118
  refine gc_seq fun K50 hK50 => gc_region (Zp rfl (Zp rfl (gl_nil (hK50 _ _ (gc_ret ?_)))))
  simp only [XR]
  refine gk_ret2 rfl rfl rfl ?_
  refine ⟨?_, hS.below⟩
  rw [hR]
  rw [if_neg (by omega), if_neg (by omega), if_neg (by omega), if_neg (by omega), if_neg (by omega), if_neg (by omega), if_neg (by omega), if_neg (by omega), if_pos (by omega)] <;> rfl
 simp only [NN, reduceCtorEq] at c118
 refine gc_skip (hK43 _ _ (gc_seq fun K51 hK51 => gc_region (Zp rfl (Zp rfl (gl_nil (hK51 _ _ (gc_ret ?_)))))))
 simp only [XR]
 refine gk_ret2 rfl rfl rfl ?_
 refine ⟨?_, hS.below⟩
 rw [hR]
 rw [if_neg (by omega), if_neg (by omega), if_neg (by omega), if_neg (by omega), if_neg (by omega), if_neg (by omega), if_neg (by omega), if_neg (by omega), if_neg (by omega)] <;> rfl
end Go.Proofs.YtnomlloaahoceaaGreatDoor

/- Our own words: made memory as one block, orders of items, a comparison of bits. Nothing here speaks of a statement; no condition. -/
namespace Go.Proofs.YtnomlloaahoceaaGreatDoor
open Go.RowKit
set_option linter.unusedVariables false
set_option linter.unusedSimpArgs false
section
variable {P : Program} {N : Nt} {e : Env} {Q : Exit → Act → World → Prop} {w w0 : World} {T : TyTab} {B : Nat} {L : List It}
theorem made_oneY (v : Value) (n : Nat) : (madeCells #[v] (n * 1)).toList = List.replicate n v := by
 rw [Nat.mul_one]
 apply List.ext_getElem
 ·simp [madeCells]
 intro j h1 h2; simp [madeCells, Nat.mod_one]
theorem St.permute {L' : List It} (h : St B w0 w L) (hp : L.Perm L') : St B w0 w L' :=
 ⟨h.1, fun it hi => h.2.1 it (hp.mem_iff.2 hi), hp.pairwise h.2.2 fun {x y} hxy b hb hb2 => hxy b hb2 hb⟩
theorem p_bca {α : Type} (a b c : α) : List.Perm [b, c, a] [a, b, c] := .trans (.cons _ (.swap ..)) (.swap ..)
theorem p_cab {α : Type} (a b c : α) : List.Perm [c, a, b] [a, b, c] := .trans (.swap ..) (.cons _ (.swap ..))
theorem p_cba {α : Type} (a b c : α) : List.Perm [c, b, a] [a, b, c] := .trans (.cons _ (.swap ..)) (p_cab ..)
end
end Go.Proofs.YtnomlloaahoceaaGreatDoor

/- Contracts of the document's own CheckProp. No condition. -/
namespace Go.Proofs.YtnomlloaahoceaaGreatDoor
open Go.RowKit
set_option linter.unusedVariables false
set_option linter.unusedSimpArgs false
@[reducible] def uV (u : Nat) : Value := .int .u64 (u : Nat)
structure LsU (w : World) (ok : Nat → Prop) (A : Option Addr) (S : List Sv) (ls : List (List Nat)) : Prop where
 rS : RdE w ok svV A S
 len : S.length = ls.length
 rd : ∀ (i : Nat) x l, S[i]? = some x → ls[i]? = some l → RdE w ok uV x.1 l ∧ x.2.1 = l.length ∧ l.length ≤ 17592186044416 ∧ ∀ u ∈ l, u < 18446744073709551616
theorem LsU.old {w w' : World} {ok : Nat → Prop} {A : Option Addr} {S : List Sv} {ls : List (List Nat)} {L0 : List It} (h : LsU w ok A S ls) (hS : St w.heap.size w w' L0) : LsU w' ok A S ls :=
 ⟨h.rS.old hS, h.len, fun i x l h1 h2 => ⟨(h.rd i x l h1 h2).1.old hS, (h.rd i x l h1 h2).2⟩⟩
structure PrU (w : World) (ok : Nat → Prop) (C G M : Sv) (SG SM : List Sv) (p : Px) : Prop where
 rC : RdE w ok uV C.1 p.C
 nC : C.2.1 = p.C.length
 lC : p.C.length ≤ 17592186044416
 fC : ∀ u ∈ p.C, u < 18446744073709551616
 rG : LsU w ok G.1 SG p.G
 nG : G.2.1 = p.G.length
 lG : p.G.length ≤ 17592186044416
 rM : LsU w ok M.1 SM p.M
 nM : M.2.1 = p.M.length
 lM : p.M.length ≤ 17592186044416
 iT : i64 p.T
 iK : i64 p.K
 iD : i64 p.D
 iS : i64 p.S
end Go.Proofs.YtnomlloaahoceaaGreatDoor

/- Contracts: numbers laid with marks behind, their bits, lists of bits compared. No condition. -/
namespace Go.Proofs.YtnomlloaahoceaaGreatDoor
open Go.RowKit
set_option linter.unusedVariables false
set_option linter.unusedSimpArgs false
@[reducible] def mkF : Value := fV 13873417816952012800
def laidC (l : List Nat) : List Value := l.map fV ++ List.replicate 9 mkF
theorem bits_calls (A : Option Addr) (n c : Nat) (l : List Nat) (w : World) {ok : Nat → Prop} (h1 : RdE w ok fV A l) (hn : n = l.length) (hl : l.length ≤ 17592186044416) :
 Calls Tryz.prog 68 ⟨[.slice A n c]⟩ w fun e w' => ∃ A' c', e = .returned (.slice A' l.length c') ∧ St w.heap.size w w' [.row A' c' 77 1 l.length (l.map uV)] := by
 subst hn
 refine gc_enter (N := 20) Tryz.func68 rfl rfl rfl [(0, _)] rfl ?_
 have hS := St.start w
 refine gc_seq fun K1 hK1 => gc_region (Zp rfl (gl_nil (hK1 _ _ (gc_seq fun K2 hK2 => gc_region (Zp rfl (gl_nil (hK2 _ _ (gc_seq fun K3 hK3 => gc_seq fun K4 hK4 => gc_region (Zp rfl (gl_nil (hK4 _ _ (gc_block ?_))))))))))))
 have hS := hS.nil 77 1
 refine gc_loop (fun k a w' => ∃ (i : Nat) (A' : Option Addr) (c' : Nat), Fr 20 a [(0, .slice A l.length c), (3, .slice A' i c'), (4, .int .i64 (i : Nat))] ∧ i ≤ l.length ∧ k = l.length + 1 - i ∧
  St w.heap.size w w' [.row A' c' 77 1 i ((l.take i).map uV)]) (l.length + 1) ?_ ?_ ?_
 ·intro a ha; exact ⟨0, none, 0, ha.sub ⟨rfl, rfl, rfl, trivial⟩, by omega, by omega, hS⟩
 ·rintro a w ⟨i, _, _, _, h1, h2, _⟩; omega
 rintro k a w1 ⟨i, A', c', hF, hi, hk, hS⟩
 refine gc_of hF ?_
 clear hF
 refine gc_seq fun K5 hK5 => gc_seq fun K6 hK6 => gc_region (Zp rfl (Zp rfl (Zp rfl (Zp rfl (gl_nil (hK6 _ _ (gc_cond rfl rfl (fun c8 => ?_) (fun c8 => ?_))))))))
 ·simp only [NN, reduceCtorEq] at c8
  refine gc_skip (hK5 _ _ (gc_seq fun K7 hK7 => gc_block (gc_region (Zp rfl (Zp rfl (Zp rfl ?_))))))
  have hil : i < l.length := by omega
  obtain ⟨u, hu⟩ : ∃ u, l[i]? = some u := ⟨_, List.getElem?_eq_getElem hil⟩
  obtain ⟨ad, hA, hc⟩ := (h1.old hS).at 0 (i := (i : Int)) (by omega) (by omega)
  have hug : l.getD ((i : Int)).toNat 0 = u := by rw [Int.toNat_natCast, List.getD_eq_getElem?_getD, hu]; rfl
  rw [hug] at hc
  have htake : l.take (i + 1) = l.take i ++ [u] := by rw [List.take_add_one, hu]; rfl
  refine gl_op rfl rfl rfl (op_indexAddr hT rfl rfl el44.cellsOf.1 el44.cellsOf.2 rfl rfl (by omega) (by omega) hA) ?_
  refine gl_op rfl rfl rfl (op_load hT rfl rfl rfl rfl hc) ?_
  refine gl_callf rfl rfl rfl rfl Tryz.func67 rfl rfl rfl (mBits_calls u _) ?_
  rintro _ _ ⟨rfl, n16, rfl⟩
  refine ⟨_, rfl, ?_⟩
  have hS := hS.dr n16
  refine gl_lit hT hS el77 rfl rfl rfl rfl rfl rfl rfl rfl rfl fun g17 w17 hS => ?_
  refine gl_append 0 hT hS el77 (hS.rd (i := 1) rfl) (rfl) rfl rfl rfl rfl rfl rfl rfl rfl (by first | omega | (simp; omega)) (by first | omega | (simp; omega)) fun A18 c18 w18 hS => ?_
  have hS := hS.erase 1
  refine Zp rfl (gl_nil (hK7 _ _ (gc_region (Zp rfl (Zi rfl (by omega) ?_)))))
  refine Zp rfl (gl_nil ?_)
  intro a ha
  refine ⟨i + 1, A18, c18, ha.sub ⟨rfl, rfl, rfl, trivial⟩, by omega, by omega, ?_⟩
  rw [htake, List.map_append]
  exact hS
 simp only [NN, reduceCtorEq] at c8
 refine gc_exit ?_
 refine hK3 _ _ (gc_seq fun K8 hK8 => gc_region (Zp rfl (Zp rfl (gl_nil (hK8 _ _ (gc_ret (gk_ret1 rfl rfl ?_)))))))
 have hie : i = l.length := by omega
 subst hie
 rw [List.take_length] at hS
 exact ⟨A', c', rfl, hS⟩
theorem sameList_calls (A B : Option Addr) (n n2 c c2 : Nat) (l : List Nat) (w : World) {ok ok2 : Nat → Prop} (hA : RdE w ok uV A l) (hn : n = l.length) (hB : RdE w ok2 uV B l) (hn2 : n2 = l.length) (hl : l.length ≤ 17592186044416) :
 Calls Tryz.prog 65 ⟨[.slice A n c, .slice B n2 c2]⟩ w fun e w' => e = .returned (.bool true) ∧ Below w.heap.size w w' := by
 subst hn
 subst hn2
 refine gc_enter (N := 26) Tryz.func65 rfl rfl rfl [(0, _), (1, _)] rfl ?_
 have hS := St.start w
 refine gc_seq fun K1 hK1 => gc_region (Zp rfl (gl_nil (hK1 _ _ (gc_seq fun K2 hK2 => gc_seq fun K3 hK3 => gc_region (Zp rfl (Zp rfl (Zp rfl (Zp rfl (Zp rfl (gl_spell 10 (v := .bool false) rfl (by simp) ?_))))))))))
 refine gl_nil (hK3 _ _ (gc_cond_f rfl (gc_skip (hK2 _ _ (gc_seq fun K4 hK4 => gc_seq fun K5 hK5 => gc_region (Zp rfl (gl_nil (hK5 _ _ (gc_block (gc_loop (fun k a w' => ∃ i : Nat, Fr 26 a [(0, .slice A l.length c), (1, .slice B l.length c2), (5, .int .i64 (i : Nat))] ∧ i ≤ l.length ∧ k = l.length + 1 - i ∧ St w.heap.size w w' []) (l.length + 1) ?_ ?_ ?_))))))))))
 ·intro a ha; exact ⟨0, ha.sub ⟨rfl, rfl, rfl, trivial⟩, by omega, by omega, hS⟩
 ·rintro a w ⟨i, _, h1, h2, _⟩; omega
 rintro k a w1 ⟨i, hF, hi, hk, hS⟩
 refine gc_of hF ?_
 clear hF
 refine gc_seq fun K6 hK6 => gc_seq fun K7 hK7 => gc_region (Zp rfl (Zp rfl (Zp rfl (Zp rfl (gl_nil (hK7 _ _ (gc_cond rfl rfl (fun c14 => ?_) (fun c14 => ?_))))))))
 ·simp only [NN, reduceCtorEq] at c14
  refine gc_skip (hK6 _ _ (gc_seq fun K8 hK8 => gc_block (gc_seq fun K9 hK9 => gc_anyS hS (by kernel_rfl) rfl fun nq6 hK => ?_)))
  have hS := hS.dr nq6
  have hil : i < l.length := by omega
  obtain ⟨u, hu⟩ : ∃ u, l[i]? = some u := ⟨_, List.getElem?_eq_getElem hil⟩
  have hug : l.getD ((i : Int)).toNat 0 = u := by rw [Int.toNat_natCast, List.getD_eq_getElem?_getD, hu]; rfl
  obtain ⟨adA, hAA, hcA⟩ := hA.at 0 (i := (i : Int)) (by omega) (by omega)
  obtain ⟨adB, hAB, hcB⟩ := hB.at 0 (i := (i : Int)) (by omega) (by omega)
  rw [hug] at hcA hcB
  refine Yp 0 rfl (by kernel_rfl) (fun _ _ _ _ h => h) hK ?_
  refine Yp 1 rfl (by kernel_rfl) (fun _ _ _ _ h => h) hK ?_
  refine ga_take 2 rfl rfl rfl rfl (by kernel_rfl) (fun _ _ _ _ h => h) hK (fun w1 hS => op_indexAddr hT rfl rfl el77.cellsOf.1 el77.cellsOf.2 rfl rfl (by omega) (by omega) hAA) ?_
  refine ga_take 3 rfl rfl rfl rfl (by kernel_rfl) (fun _ _ _ _ h => h) hK (fun w1 hS => op_load hT rfl rfl rfl rfl (cellOf hS.below hcA)) ?_
  refine Yp 4 rfl (by kernel_rfl) (fun _ _ _ _ h => h) hK ?_
  refine Yp 5 rfl (by kernel_rfl) (fun _ _ _ _ h => h) hK ?_
  refine ga_take 6 rfl rfl rfl rfl (by kernel_rfl) (fun _ _ _ _ h => h) hK (fun w1 hS => op_indexAddr hT rfl rfl el77.cellsOf.1 el77.cellsOf.2 rfl rfl (by omega) (by omega) hAB) ?_
  refine ga_take 7 rfl rfl rfl rfl (by kernel_rfl) (fun _ _ _ _ h => h) hK (fun w1 hS => op_load hT rfl rfl rfl rfl (cellOf hS.below hcB)) ?_
  refine Yp 8 rfl (by kernel_rfl) (fun _ _ _ _ h => h) hK ?_
  refine ga_spell 25 (v := .bool false) rfl (by simp) ?_
  refine ga_done (by kernel_rfl) ?_
  refine hK9 _ _ (gc_cond_f rfl (gc_skip (hK8 _ _ (gc_region (Zp rfl (Zi rfl (by omega) ?_))))))
  refine Zp rfl (gl_nil ?_)
  intro a ha
  exact ⟨i + 1, ha.sub ⟨rfl, rfl, rfl, trivial⟩, by omega, by omega, hS⟩
 simp only [NN, reduceCtorEq] at c14
 refine gc_exit ?_
 refine hK4 _ _ (gc_seq fun K10 hK10 => gc_region (Zp rfl (gl_nil (hK10 _ _ (gc_ret (gk_ret1 rfl rfl ?_))))))
 exact ⟨rfl, hS.below⟩
end Go.Proofs.YtnomlloaahoceaaGreatDoor
