/- Contracts of functions that CodeNetBytes reaches, and words to say them. No condition. -/
import Derived.Test.YtnomlloaahoceaaGreatDoorZ17
import Derived.Test.YtnomlloaahoceaaGreatDoorZ03
import Derived.Test.YtnomlloaahoceaaGreatDoorZ16
/- The document's numbers held against one: level, Plus, Cmp, Of, as far as chapter 6 asks for them. No condition. -/
namespace Go.Proofs.YtnomlloaahoceaaGreatDoor
open Go.RowKit
set_option linter.unusedVariables false
set_option linter.unusedSimpArgs false
structure NmW (w : World) (ok : Nat → Prop) (x : Nm) (l : List Nat) : Prop where
 rd : RdE w ok w4 x.A l
 n : x.n = l.length
 c : l.length ≤ x.c
 wo : wOk l
 ca : cano l
 le : l.length ≤ 1048576 ∧ 0 < l.length
theorem NmW.old {w w' : World} {ok : Nat → Prop} {x : Nm} {l : List Nat} {L0 : List It} (h : NmW w ok x l) (hS : St w.heap.size w w' L0) : NmW w' ok x l := ⟨h.rd.old hS, h.n, h.c, h.wo, h.ca, h.le⟩
theorem RdE.weaken {α : Type} {w : World} {ok ok' : Nat → Prop} {enc : α → Value} {A : Option Addr} {l : List α} (h : RdE w ok enc A l) (hok : ∀ b, ok b → ok' b) : RdE w ok' enc A l := Rd.weaken h hok
def Wd (A0 : Option Addr) (l0 : List Nat) (w' : World) (K : Nat → Prop) (A : Option Addr) (l : List Nat) : Prop := (A = A0 ∧ l = l0) ∨ RdE w' K w4 A l
theorem Wd.now {w w' w2 : World} {ok K : Nat → Prop} {A0 A : Option Addr} {l0 l : List Nat} {L : List It} (h : Wd A0 l0 w' K A l) (h0 : RdE w ok w4 A0 l0) (hS : St w.heap.size w w2 L) {i : Nat} (hi : L[i]? = some (.keep K w')) : RdE w2 All w4 A l := by
 rcases h with ⟨rfl, rfl⟩ | h
 ·exact (h0.old hS).weaken fun _ _ => trivial
 exact (show RdE w2 K w4 A l from hS.keepRd hi h).weaken fun _ _ => trivial
set_option maxRecDepth 100000 in
theorem level_calls (x y : Nm) (lx ly : List Nat) (w : World) {ok ok2 : Nat → Prop} (hx : NmW w ok x lx) (hy : NmW w ok2 y ly) (he : -1100 ≤ x.e ∧ x.e ≤ 1000 ∧ -1100 ≤ y.e ∧ y.e ≤ 1000) :
 Calls Tryz.prog 118 ⟨[.agg ⟨nmC x⟩, .agg ⟨nmC y⟩]⟩ w fun e w' => ∃ A1 c1 l1 A2 c2 l2 E K, e = .returned (.tuple #[.slice A1 l1.length c1, .slice A2 l2.length c2, .int .i64 E]) ∧ St w.heap.size w w' [.keep K w'] ∧ Wd x.A lx w' K A1 l1 ∧ Wd y.A ly w' K A2 l2 ∧ wOk l1 ∧ wOk l2 ∧ cano l1 ∧ cano l2 ∧ (l1.length ≤ 1048705 ∧ l2.length ≤ 1048705) ∧
  nv l1 = nv lx * 2 ^ (x.e - y.e).toNat ∧ nv l2 = nv ly * 2 ^ (y.e - x.e).toNat := by
 obtain ⟨xn, xA, xl, xc, xe⟩ := x
 obtain ⟨yn, yA, yl, yc, ye⟩ := y
 have hxn := hx.n
 have hyn := hy.n
 simp only at hxn hyn he ⊢
 subst hxn
 subst hyn
 have hx0 := hx.le.2
 have hy0 := hy.le.2
 have hx1 := hx.le.1
 have hy1 := hy.le.1
 refine gc_enter (N := 52) Tryz.func118 rfl rfl rfl [(0, _), (1, _)] rfl ?_
 have hS := St.start w
 refine gc_seq fun K1 hK1 => gc_region (gl_box hS rfl rfl rfl rfl rfl fun g2 w2 hS => ?_)
 refine gl_box hS rfl rfl rfl rfl rfl fun g3 w3 hS => ?_
 refine Zp rfl (Zp rfl (Zp rfl (gl_nil (hK1 _ _ (gc_seq fun K2 hK2 => gc_seq fun K3 hK3 => gc_region (Zf 1 Tryz.underlying183 rfl el181 (Zb 0 hS rfl (Zp rfl (Zp rfl (gl_spell 10 (v := .bool false) rfl (congrArg Value.bool (decide_eq_false (show ¬ ((lx.length : Nat) : Int) = 0 by omega))) ?_))))))))))
 refine gl_nil (hK3 _ _ (gc_cond_f rfl (gc_skip (hK2 _ _ (gc_seq fun K4 hK4 => gc_seq fun K5 hK5 => gc_region (Zf 1 Tryz.underlying183 rfl el181 (Zb 1 hS rfl (Zp rfl (Zp rfl (gl_spell 18 (v := .bool false) rfl (congrArg Value.bool (decide_eq_false (show ¬ ((ly.length : Nat) : Int) = 0 by omega))) ?_))))))))))
 refine gl_nil (hK5 _ _ (gc_cond_f rfl (gc_skip (hK4 _ _ (gc_seq fun K6 hK6 => gc_seq fun K7 hK7 => gc_region (Zf 2 Tryz.underlying183 rfl el3 (Zb 0 hS rfl (Zf 2 Tryz.underlying183 rfl el3 (Zb 1 hS rfl (Zp rfl (gl_nil (hK7 _ _ (gc_cond rfl rfl (fun c27 => ?_) (fun c27 => ?_))))))))))))))
 ·simp only [NN, reduceCtorEq] at c27
  refine gc_seq fun K8 hK8 => gc_anyS hS (by kernel_rfl) rfl fun nq6 hK => ?_
  have hS := hS.dr nq6
  refine Yf 0 1 Tryz.underlying183 rfl el181 (by kernel_rfl) (fun _ _ _ _ h => h) hK ?_
  refine Yb 1 0 rfl (by kernel_rfl) (fun _ _ _ _ h => h) hK ?_
  refine Yf 2 2 Tryz.underlying183 rfl el3 (by kernel_rfl) (fun _ _ _ _ h => h) hK ?_
  refine Yb 3 0 rfl (by kernel_rfl) (fun _ _ _ _ h => h) hK ?_
  refine Yf 4 2 Tryz.underlying183 rfl el3 (by kernel_rfl) (fun _ _ _ _ h => h) hK ?_
  refine Yb 5 1 rfl (by kernel_rfl) (fun _ _ _ _ h => h) hK ?_
  refine ga_take 6 rfl rfl rfl rfl (by kernel_rfl) (fun _ _ _ _ h => h) hK (fun w1 hS => op_fit (n := xe - ye) hT rfl (by omega)) ?_
  refine ga_spell 34 (v := .int .i64 (((xe - ye).toNat : Nat) : Int)) rfl (congrArg (Value.int .i64) (by omega)) ?_
  refine Yf 8 1 Tryz.underlying183 rfl el181 (by kernel_rfl) (fun _ _ _ _ h => h) hK ?_
  refine Yb 9 1 rfl (by kernel_rfl) (fun _ _ _ _ h => h) hK ?_
  refine Yf 10 2 Tryz.underlying183 rfl el3 (by kernel_rfl) (fun _ _ _ _ h => h) hK ?_
  refine Yb 11 1 rfl (by kernel_rfl) (fun _ _ _ _ h => h) hK ?_
  refine ga_one 7 (by kernel_rfl) rfl ?_
  refine gl_callf rfl rfl rfl rfl Tryz.func122 rfl rfl rfl (nleft_calls xA xc lx.length lx (xe - ye).toNat _ (hx.rd.old hS) rfl hx0 hx1 hx.wo (by omega)) ?_
  rintro _ w35 ⟨A35, c35, l35, K35, rfl, h35, hr35, ho35, hv35, hk35, hl35⟩
  refine ⟨_, rfl, ?_⟩
  have hS := hS.more h35
  refine gl_nil (ga_next (hS.pre 2) fun hK => ?_)
  refine Yp 12 rfl (by kernel_rfl) (fun _ _ _ _ h => h) hK ?_
  refine Yp 13 rfl (by kernel_rfl) (fun _ _ _ _ h => h) hK ?_
  refine Yp 14 rfl (by kernel_rfl) (fun _ _ _ _ h => h) hK ?_
  refine ga_done (by kernel_rfl) ?_
  refine hK8 _ _ (gc_ret ?_)
  simp only [XR]
  refine gk_ret3 rfl rfl rfl rfl ?_
  refine ⟨A35, c35, l35, yA, yc, ly, ye, _, rfl, hS.keepAll, .inr (show RdE _ _ w4 A35 l35 from (hS.keepRd (i := 2) rfl hr35).weaken (keep_mem (x := .keep K35 w35) (.tail _ (.tail _ (.head _))))), .inl ⟨rfl, rfl⟩, ho35, hy.wo, hk35, hy.ca, ⟨by omega, by omega⟩, hv35, ?_⟩
  rw [show (ye - xe).toNat = 0 by omega, Nat.pow_zero, Nat.mul_one]
 simp only [NN, reduceCtorEq] at c27
 refine gc_skip (hK6 _ _ (gc_seq fun K9 hK9 => gc_anyS hS (by kernel_rfl) rfl fun nq7 hK => ?_))
 have hS := hS.dr nq7
 refine Yf 0 1 Tryz.underlying183 rfl el181 (by kernel_rfl) (fun _ _ _ _ h => h) hK ?_
 refine Yb 1 0 rfl (by kernel_rfl) (fun _ _ _ _ h => h) hK ?_
 refine Yf 2 1 Tryz.underlying183 rfl el181 (by kernel_rfl) (fun _ _ _ _ h => h) hK ?_
 refine Yb 3 1 rfl (by kernel_rfl) (fun _ _ _ _ h => h) hK ?_
 refine Yf 4 2 Tryz.underlying183 rfl el3 (by kernel_rfl) (fun _ _ _ _ h => h) hK ?_
 refine Yb 5 1 rfl (by kernel_rfl) (fun _ _ _ _ h => h) hK ?_
 refine Yf 6 2 Tryz.underlying183 rfl el3 (by kernel_rfl) (fun _ _ _ _ h => h) hK ?_
 refine Yb 7 0 rfl (by kernel_rfl) (fun _ _ _ _ h => h) hK ?_
 refine ga_take 8 rfl rfl rfl rfl (by kernel_rfl) (fun _ _ _ _ h => h) hK (fun w1 hS => op_fit (n := ye - xe) hT rfl (by omega)) ?_
 refine ga_spell 48 (v := .int .i64 (((ye - xe).toNat : Nat) : Int)) rfl (congrArg (Value.int .i64) (by omega)) ?_
 refine Yf 10 2 Tryz.underlying183 rfl el3 (by kernel_rfl) (fun _ _ _ _ h => h) hK ?_
 refine Yb 11 0 rfl (by kernel_rfl) (fun _ _ _ _ h => h) hK ?_
 refine ga_one 9 (by kernel_rfl) rfl ?_
 refine gl_callf rfl rfl rfl rfl Tryz.func122 rfl rfl rfl (nleft_calls yA yc ly.length ly (ye - xe).toNat _ (hy.rd.old hS) rfl hy0 hy1 hy.wo (by omega)) ?_
 rintro _ w49 ⟨A49, c49, l49, K49, rfl, h49, hr49, ho49, hv49, hk49, hl49⟩
 refine ⟨_, rfl, ?_⟩
 have hS := hS.more h49
 refine gl_nil (ga_next (hS.pre 2) fun hK => ?_)
 refine Yp 12 rfl (by kernel_rfl) (fun _ _ _ _ h => h) hK ?_
 refine Yp 13 rfl (by kernel_rfl) (fun _ _ _ _ h => h) hK ?_
 refine Yp 14 rfl (by kernel_rfl) (fun _ _ _ _ h => h) hK ?_
 refine ga_done (by kernel_rfl) ?_
 refine hK9 _ _ (gc_ret ?_)
 simp only [XR]
 refine gk_ret3 rfl rfl rfl rfl ?_
 refine ⟨xA, xc, lx, A49, c49, l49, xe, _, rfl, hS.keepAll, .inl ⟨rfl, rfl⟩, .inr (show RdE _ _ w4 A49 l49 from (hS.keepRd (i := 2) rfl hr49).weaken (keep_mem (x := .keep K49 w49) (.tail _ (.tail _ (.head _))))), hx.wo, ho49, hx.ca, hk49, ⟨by omega, by omega⟩, ?_, hv49⟩
 rw [show (xe - ye).toNat = 0 by omega, Nat.pow_zero, Nat.mul_one]
theorem cano_len {a b : List Nat} (ha : wOk a) (hb : cano b) (h : nv b ≤ nv a) : b.length ≤ a.length := by
 rcases Nat.lt_or_ge a.length b.length with h1 | h1
 ·have := cano_lt ha hb h1
  omega
 exact h1
theorem nv_pos {l : List Nat} (h : cano l) (hl : 0 < l.length) : 0 < nv l := by
 rcases h with rfl | h
 ·simp at hl
 have h1 : 4294967296 ^ 0 ≤ 4294967296 ^ (l.length - 1) := Nat.pow_le_pow_right (by decide) (Nat.zero_le _)
 rw [Nat.pow_zero] at h1
 omega
theorem pos_len {l : List Nat} (h : 0 < nv l) : 0 < l.length := by
 cases l with
 | nil => simp [nv] at h
 | cons a r => simp
set_option maxRecDepth 100000 in
theorem plus_calls (x y : Nm) (lx ly : List Nat) (w : World) {ok ok2 : Nat → Prop} (hx : NmW w ok x lx) (hy : NmW w ok2 y ly) (he : -1100 ≤ x.e ∧ x.e ≤ 1000 ∧ -1100 ≤ y.e ∧ y.e ≤ 1000) (hxn : x.neg = false) (hyn : y.neg = true) :
 Calls Tryz.prog 116 ⟨[.agg ⟨nmC x⟩, .agg ⟨nmC y⟩]⟩ w fun e w' => ∃ r : Nm, e = .returned (.agg ⟨nmC r⟩) ∧ Below w.heap.size w w' ∧ ((r.n ≠ 0 ∧ r.neg = false) ↔ nv ly * 2 ^ (y.e - x.e).toNat < nv lx * 2 ^ (x.e - y.e).toNat) := by
 have hpx := nv_pos hx.ca hx.le.2
 have hpy := nv_pos hy.ca hy.le.2
 refine gc_enter (N := 62) Tryz.func116 rfl rfl rfl [(0, _), (1, _)] rfl ?_
 have hS := St.start w
 refine gc_seq fun K1 hK1 => gc_region (gl_box hS rfl rfl rfl rfl rfl fun g2 w2 hS => ?_)
 refine gl_box hS rfl rfl rfl rfl rfl fun g3 w3 hS => ?_
 refine gl_alloc el183 hS rfl rfl rfl rfl fun g4 w4 hS => ?_
 refine gl_nil (hK1 _ _ (gc_seq fun K2 hK2 => gc_region (Zg 0 Tryz.underlying183 el183 hS rfl (Zg 1 Tryz.underlying183 el183 hS rfl (gl_callf rfl rfl rfl rfl Tryz.func118 rfl rfl rfl (level_calls x y lx ly _ (hx.old hS) (hy.old hS) he) ?_)))))
 rintro _ w12 ⟨A1, c1, l1, A2, c2, l2, E, K, rfl, h12, hw1, hw2, ho1, ho2, hk1, hk2, hll, hv1, hv2⟩
 refine ⟨_, rfl, ?_⟩
 have hS := hS.more h12
 have hp1 : 0 < nv l1 := by rw [hv1]; exact Nat.mul_pos hpx (Nat.two_pow_pos _)
 have hp2 : 0 < nv l2 := by rw [hv2]; exact Nat.mul_pos hpy (Nat.two_pow_pos _)
 have hq1 := pos_len hp1
 have hq2 := pos_len hp2
 rw [← hv1, ← hv2]
 refine Zp rfl (Zp rfl (Zp rfl (Zp rfl (Zp rfl (Zp rfl (Zp rfl (gl_nil (hK2 _ _ (gc_seq fun K3 hK3 => gc_region (Zf 0 Tryz.underlying183 rfl el4 (Zb 0 hS rfl (Zp rfl (gl_op rfl rfl rfl (op_buildG rfl plan183 rfl rfl) ?_)))))))))))))
 refine gl_alloc el183 hS rfl rfl rfl rfl fun g8 w8 hS => ?_
 refine gl_storeM 4 hS el183 rfl rfl rfl rfl rfl rfl rfl rfl rfl fun w_220 hS => ?_
 refine gl_nil (hK3 _ _ (gc_cut (fun a' w' => ∃ (g8 nD cD : Nat) (D : Option Addr) (ng : Bool), Fr 62 a' [(4, .pointer (some ⟨g4, 0, none⟩)), (8, .pointer (some ⟨g8, 0, none⟩))] ∧ ((nD ≠ 0 ∧ ng = false) ↔ nv l2 < nv l1) ∧ St w.heap.size w w' [.blk g2 183 (nmC x), .blk g3 183 (nmC y), .blk g4 183 [.bool false, .slice none 0 0, .int .i64 0], .keep K w12, .blk g8 183 (nmC ⟨ng, D, nD, cD, E⟩)]) ?_ ?_))
 ·refine gc_block (gc_seq fun K4 hK4 => gc_region (Zp rfl (Zp rfl (Zp rfl (gl_spell 30 (v := .bool false) rfl (congrArg Value.bool (decide_eq_false (show ¬ ((l1.length : Nat) : Int) = 0 by omega))) ?_)))))
  refine Zp rfl (gl_nil (hK4 _ _ (gc_cond_f rfl (gc_seq fun K5 hK5 => gc_region (Zp rfl (Zp rfl (Zp rfl (gl_spell 35 (v := .bool false) rfl (congrArg Value.bool (decide_eq_false (show ¬ ((l2.length : Nat) : Int) = 0 by omega))) ?_))))))))
  refine Zp rfl (gl_nil (hK5 _ _ (gc_cond_f rfl (gc_seq fun K6 hK6 => gc_region (Zf 0 Tryz.underlying183 rfl el4 (Zb 0 hS rfl (Zf 0 Tryz.underlying183 rfl el4 (Zb 1 hS rfl (Zp rfl (gl_spell 42 (v := .bool false) rfl (by rw [hxn, hyn]; rfl) ?_))))))))))
  refine Zp rfl (gl_nil (hK6 _ _ (gc_cond_f rfl (gc_seq fun K7 hK7 => gc_region (Zp rfl (Zp rfl (gl_callf rfl rfl rfl rfl Tryz.func120 rfl rfl rfl (ncmp_calls A1 A2 c1 c2 _ _ l1 l2 _ (hw1.now hx.rd hS (i := 3) rfl) (hw2.now hy.rd hS (i := 3) rfl) rfl rfl ho1 ho2 hk1 hk2 (by omega)) ?_)))))))
  rintro _ w50 ⟨r, rfl, hr, hb50⟩
  refine ⟨_, rfl, ?_⟩
  have hS := hS.grown hb50
  refine Zp rfl (Zp rfl (gl_nil (hK7 _ _ (gc_cond rfl rfl (fun c47 => ?_) (fun c47 => ?_)))))
  ·simp only [NN, reduceCtorEq] at c47
   refine gc_region (Zp rfl (Zp rfl ?_))
   have hle : nv l2 ≤ nv l1 := hr.1 (by omega)
   refine gl_callf rfl rfl rfl rfl Tryz.func121 rfl rfl rfl (nminus_calls A1 A2 c1 c2 _ _ l1 l2 _ (hw1.now hx.rd hS (i := 3) rfl) (hw2.now hy.rd hS (i := 3) rfl) rfl rfl ho1 ho2 hle (cano_len ho1 hk2 hle) (by omega)) ?_
   rintro _ w54 ⟨D, nD, cD, rfl, hnD, hb54⟩
   refine ⟨_, rfl, ?_⟩
   have hS := hS.grown hb54
   refine Zf 1 Tryz.underlying183 rfl el181 (gl_store 4 hS el181.cellsOf.1 el181.cellsOf.2 rfl rfl rfl rfl rfl rfl rfl rfl fun w_229 hS => ?_)
   refine gl_nil ?_
   intro a' ha
   exact ⟨g8, nD, cD, D, x.neg, ha.sub ⟨rfl, rfl, trivial⟩, ⟨fun h => by have := h.1; omega, fun h => ⟨by omega, hxn⟩⟩, hS⟩
  simp only [NN, reduceCtorEq] at c47
  refine gc_seq fun K8 hK8 => gc_region (Zf 0 Tryz.underlying183 rfl el4 (Zb 1 hS rfl (Zf 0 Tryz.underlying183 rfl el4 (gl_store 4 hS el4.cellsOf.1 el4.cellsOf.2 rfl rfl rfl rfl rfl rfl rfl rfl fun w_231 hS => ?_))))
  refine gl_nil (hK8 _ _ (gc_region (Zp rfl (Zp rfl ?_))))
  have hlt : nv l1 < nv l2 := by
   rcases Nat.lt_or_ge (nv l1) (nv l2) with h | h
   ·exact h
   have := hr.2 h; omega
  refine gl_callf rfl rfl rfl rfl Tryz.func121 rfl rfl rfl (nminus_calls A2 A1 c2 c1 _ _ l2 l1 _ (hw2.now hy.rd hS (i := 3) rfl) (hw1.now hx.rd hS (i := 3) rfl) rfl rfl ho2 ho1 (Nat.le_of_lt hlt) (cano_len ho2 hk1 (Nat.le_of_lt hlt)) (by omega)) ?_
  rintro _ w25 ⟨D, nD, cD, rfl, hnD, hb25⟩
  refine ⟨_, rfl, ?_⟩
  have hS := hS.grown hb25
  refine Zf 1 Tryz.underlying183 rfl el181 (gl_store 4 hS el181.cellsOf.1 el181.cellsOf.2 rfl rfl rfl rfl rfl rfl rfl rfl fun w_232 hS => ?_)
  refine gl_nil ?_
  intro a' ha
  exact ⟨g8, nD, cD, D, y.neg, ha.sub ⟨rfl, rfl, trivial⟩, ⟨fun h => by rw [hyn] at h; exact absurd h.2 (by decide), fun h => by omega⟩, hS⟩
 rintro a' w1 ⟨g8, nD, cD, D, ng, hF, hng, hS⟩
 refine gc_of hF ?_
 clear hF
 refine gc_seq fun K9 hK9 => gc_seq fun K10 hK10 => gc_region (Zf 1 Tryz.underlying183 rfl el181 (Zb 4 hS rfl (Zp rfl (Zp rfl (gl_nil (hK10 _ _ (gc_cond rfl rfl (fun c59 => ?_) (fun c59 => ?_))))))))
 ·simp only [NN, reduceCtorEq] at c59
  refine gc_seq fun K11 hK11 => gc_region (gl_op rfl rfl rfl (op_buildG rfl plan183 rfl rfl) ?_)
  refine gl_storeM 2 hS el183 rfl rfl rfl rfl rfl rfl rfl rfl rfl fun w_235 hS => ?_
  refine gl_nil (hK11 _ _ (gc_ret ?_))
  simp only [XR]
  refine gk_res1 rfl (⟨_, rfl, run_loadVarB 2 Tryz.underlying183 rfl el183 hS rfl rfl rfl⟩) ?_
  exact ⟨⟨false, none, 0, 0, 0⟩, rfl, hS.below, ⟨fun h => absurd rfl h.1, fun h => by have := (hng.2 (by rw [hv1, hv2]; exact h)).1; omega⟩⟩
 simp only [NN, reduceCtorEq] at c59
 refine gc_skip (hK9 _ _ (gc_seq fun K12 hK12 => gc_region (Zg 4 Tryz.underlying183 el183 hS rfl (gl_storeM 2 hS el183 rfl rfl rfl rfl rfl rfl rfl rfl rfl fun w_237 hS => ?_))))
 refine gl_nil (hK12 _ _ (gc_ret ?_))
 simp only [XR]
 refine gk_res1 rfl (⟨_, rfl, run_loadVarB 2 Tryz.underlying183 rfl el183 hS rfl rfl rfl⟩) ?_
 exact ⟨⟨ng, D, nD, cD, E⟩, rfl, hS.below, by rw [← hv1, ← hv2]; exact hng⟩
end Go.Proofs.YtnomlloaahoceaaGreatDoor

/- The document's numbers of bits, held against one; its Fields, Out, Lists, of any layer. No condition. -/
namespace Go.Proofs.YtnomlloaahoceaaGreatDoor
open Go.RowKit
set_option linter.unusedVariables false
set_option linter.unusedSimpArgs false
theorem minusW_calls (x y : Nm) (lx ly : List Nat) (w : World) {ok ok2 : Nat → Prop} (hx : NmW w ok x lx) (hy : NmW w ok2 y ly) (he : -1100 ≤ x.e ∧ x.e ≤ 1000 ∧ -1100 ≤ y.e ∧ y.e ≤ 1000) (hxn : x.neg = false) (hyn : y.neg = false) :
 Calls Tryz.prog 115 ⟨[.agg ⟨nmC x⟩, .agg ⟨nmC y⟩]⟩ w fun e w' => ∃ r : Nm, e = .returned (.agg ⟨nmC r⟩) ∧ Below w.heap.size w w' ∧ ((r.n ≠ 0 ∧ r.neg = false) ↔ nv ly * 2 ^ (y.e - x.e).toNat < nv lx * 2 ^ (x.e - y.e).toNat) := by
 have hy0 : y.n ≠ 0 := by rw [hy.n]; have := hy.le.2; omega
 refine gc_enter (N := 9) Tryz.func115 rfl rfl rfl [(0, _), (1, _)] rfl ?_
 have hS := St.start w
 refine gc_seq fun K1 hK1 => gc_region (gl_box hS rfl rfl rfl rfl rfl fun g2 w2 hS => ?_)
 refine gl_box hS rfl rfl rfl rfl rfl fun g3 w3 hS => ?_
 refine gl_alloc el183 hS rfl rfl rfl rfl fun g4 w4 hS => ?_
 refine gl_nil (hK1 _ _ (gc_seq fun K2 hK2 => gc_anyS (hS.blank 2) (by kernel_rfl) rfl fun nq1 hK => ?_))
 have hS := hS.dr nq1
 refine ga_take 0 rfl rfl rfl rfl (by kernel_rfl) (fun _ _ _ _ h => h) hK (fun w1 hS => op_loadG 0 Tryz.underlying183 rfl el183 hS rfl rfl rfl rfl rfl) ?_
 refine ga_take 1 rfl rfl rfl rfl (by kernel_rfl) (fun _ _ _ _ h => h) hK (fun w1 hS => op_loadG 1 Tryz.underlying183 rfl el183 hS rfl rfl rfl rfl rfl) ?_
 refine ga_one 2 (by kernel_rfl) rfl ?_
 refine gl_callf rfl rfl rfl rfl Tryz.func117 rfl rfl rfl (turned_calls y _) ?_
 rintro _ w7 ⟨rfl, hb7⟩
 refine ⟨_, rfl, ?_⟩
 have hS := hS.grown hb7
 refine gl_nil (ga_next ((hS.blank 2).pre 3) fun hK => ?_)
 refine ga_one 3 (by kernel_rfl) rfl ?_
 have hyT : NmW w ok2 ⟨if y.n = 0 then y.neg else !y.neg, y.A, y.n, y.c, y.e⟩ ly := ⟨hy.rd, hy.n, hy.c, hy.wo, hy.ca, hy.le⟩
 refine gl_callf rfl rfl rfl rfl Tryz.func116 rfl rfl rfl (plus_calls x ⟨if y.n = 0 then y.neg else !y.neg, y.A, y.n, y.c, y.e⟩ lx ly _ (hx.old hS) (hyT.old hS) he hxn (by show (if y.n = 0 then y.neg else !y.neg) = true; rw [if_neg hy0, hyn]; rfl)) ?_
 rintro _ w8 ⟨r, rfl, hb8, hr⟩
 refine ⟨_, rfl, ?_⟩
 have hS := hS.grown hb8
 refine gl_nil (ga_next ((hS.blank 2).pre 3) fun hK => ?_)
 refine ga_one 4 (by kernel_rfl) rfl ?_
 refine gl_storeM 2 hS el183 rfl rfl rfl rfl rfl rfl rfl rfl rfl fun w_241 hS => ?_
 refine gl_nil (ga_next ((hS.blank 2).pre 3) fun hK => ?_)
 refine ga_done (by kernel_rfl) ?_
 refine hK2 _ _ (gc_ret (gk_res1 rfl (⟨_, rfl, run_loadVarB 2 Tryz.underlying183 rfl el183 hS rfl rfl rfl⟩) ?_))
 exact ⟨r, rfl, hS.below, hr⟩
theorem cmpW_calls (x y : Nm) (lx ly : List Nat) (w : World) {ok ok2 : Nat → Prop} (hx : NmW w ok x lx) (hy : NmW w ok2 y ly) (he : -1100 ≤ x.e ∧ x.e ≤ 1000 ∧ -1100 ≤ y.e ∧ y.e ≤ 1000) (hxn : x.neg = false) (hyn : y.neg = false) :
 Calls Tryz.prog 107 ⟨[.agg ⟨nmC x⟩, .agg ⟨nmC y⟩]⟩ w fun e w' => ∃ s : Int, e = .returned (.int .i64 s) ∧ (0 < s ↔ nv ly * 2 ^ (y.e - x.e).toNat < nv lx * 2 ^ (x.e - y.e).toNat) ∧ Below w.heap.size w w' := by
 refine gc_enter (N := 9) Tryz.func107 rfl rfl rfl [(0, _), (1, _)] rfl ?_
 have hS := St.start w
 refine gc_seq fun K1 hK1 => gc_region (gl_box hS rfl rfl rfl rfl rfl fun g2 w2 hS => ?_)
 refine gl_box hS rfl rfl rfl rfl rfl fun g3 w3 hS => ?_
 refine Zp rfl (gl_nil (hK1 _ _ (gc_seq fun K2 hK2 => gc_region (Zg 0 Tryz.underlying183 el183 hS rfl (Zg 1 Tryz.underlying183 el183 hS rfl (gl_callf rfl rfl rfl rfl Tryz.func115 rfl rfl rfl (minusW_calls x y lx ly _ (hx.old hS) (hy.old hS) he hxn hyn) ?_))))))
 rintro _ w7 ⟨r, rfl, hb7, hr⟩
 refine ⟨_, rfl, ?_⟩
 have hS := hS.grown hb7
 refine gl_callf rfl rfl rfl rfl Tryz.func106 rfl rfl rfl (sign_calls r _) ?_
 rintro _ w8 ⟨rfl, hb8⟩
 refine ⟨_, rfl, ?_⟩
 have hS := hS.grown hb8
 refine Zp rfl (gl_nil (hK2 _ _ (gc_ret (gk_ret1 rfl rfl ?_))))
 refine ⟨_, rfl, ?_, hS.below⟩
 rw [← hr]
 constructor
 ·intro h
  by_cases h0 : r.n = 0
  ·rw [if_pos h0] at h; exact absurd h (by decide)
  rw [if_neg h0] at h
  refine ⟨h0, ?_⟩
  by_cases h1 : r.neg = true
  ·rw [if_pos h1] at h; exact absurd h (by decide)
  simpa using h1
 rintro ⟨h0, h1⟩
 rw [if_neg h0, h1]
 decide
theorem cmpZ_calls (x y : Nm) (lx ly : List Nat) (w : World) {ok ok2 : Nat → Prop} (hx : x.n = 0 ∨ (NmW w ok x lx ∧ x.neg = false)) (hy : NmW w ok2 y ly) (he : x.n = 0 ∨ (-1100 ≤ x.e ∧ x.e ≤ 1000 ∧ -1100 ≤ y.e ∧ y.e ≤ 1000)) (hyn : y.neg = false) :
 Calls Tryz.prog 107 ⟨[.agg ⟨nmC x⟩, .agg ⟨nmC y⟩]⟩ w fun e w' => ∃ s : Int, e = .returned (.int .i64 s) ∧ (0 < s ↔ (x.n ≠ 0 ∧ nv ly * 2 ^ (y.e - x.e).toNat < nv lx * 2 ^ (x.e - y.e).toNat)) ∧ Below w.heap.size w w' := by
 have hy0 : y.n ≠ 0 := by rw [hy.n]; have := hy.le.2; omega
 by_cases h0 : x.n = 0
 ·refine (cmp0_calls x y w h0).mono ?_
  rintro e w' ⟨rfl, hb⟩
  refine ⟨_, rfl, ?_, hb⟩
  rw [if_neg hy0, if_neg hy0, hyn]
  exact ⟨fun h => absurd h (by decide), fun h => absurd h0 h.1⟩
 obtain ⟨h1, h2⟩ := hx.resolve_left h0
 refine (cmpW_calls x y lx ly w h1 hy (he.resolve_left h0) h2 hyn).mono ?_
 rintro e w' ⟨s, rfl, hs, hb⟩
 exact ⟨s, rfl, hs.trans ⟨fun h => ⟨h0, h⟩, fun h => h.2⟩, hb⟩
theorem NmW.keep {w w0 : World} {B : Nat} {L : List It} (hS : St B w0 w L) {i : Nat} {ok : Nat → Prop} {wk : World} (hi : L[i]? = some (.keep ok wk)) {x : Nm} {l : List Nat} (h : NmW wk ok x l) : NmW w ok x l :=
 ⟨hS.keepRd hi h.rd, h.n, h.c, h.wo, h.ca, h.le⟩
def mantV (u : Nat) : Nat := if u / 4503599627370496 % 2048 = 0 then u % 4503599627370496 else u % 4503599627370496 + 4503599627370496
def expoV (u : Nat) : Int := (if u / 4503599627370496 % 2048 = 0 then 1 else ((u / 4503599627370496 % 2048 : Nat) : Int)) - 1075
theorem nv_two (M : Nat) (h : M < 18446744073709551616) : nv [M % 4294967296, M / 4294967296 % 4294967296] = M := by
 show M % 4294967296 + 4294967296 * (M / 4294967296 % 4294967296 + 4294967296 * 0) = M
 omega
set_option maxRecDepth 100000 in
theorem ofW_calls (u : Nat) (hu : u < 18446744073709551616) (hn : nmB u = true) (w : World) :
 Calls Tryz.prog 105 ⟨[.int .u64 (u : Nat)]⟩ w fun e w' => ∃ (x : Nm) (l : List Nat) (K : Nat → Prop), e = .returned (.tuple #[.agg ⟨nmC x⟩, .bool true]) ∧ St w.heap.size w w' [.keep K w'] ∧ (x.n = 0 ↔ mantV u = 0) ∧ (x.n ≠ 0 → NmW w' K x l ∧ nv l = mantV u ∧ x.e = expoV u ∧ x.neg = decide (9223372036854775808 ≤ u)) := by
 have hne : u / 4503599627370496 % 2048 ≠ 2047 := by unfold nmB at hn; simpa using hn
 obtain ⟨ex, hex⟩ : ∃ ex, ex = u / 4503599627370496 % 2048 := ⟨_, rfl⟩
 obtain ⟨m, hm⟩ : ∃ m, m = u % 4503599627370496 := ⟨_, rfl⟩
 rw [← hex] at hne
 refine gc_enter (N := 35) Tryz.func105 rfl rfl rfl [(0, _)] rfl ?_
 have hS := St.start w
 refine gc_seq fun K1 hK1 => gc_region (gl_alloc el183 hS rfl rfl rfl rfl fun g2 w2 hS => ?_)
 refine Zp rfl (gl_nil (hK1 _ _ (gc_seq fun K2 hK2 => gc_region (Zp rfl (Zp rfl ?_)))))
 have e1 : (u : Int) / 2 ^ 52 = ((u / 4503599627370496 : Nat) : Int) := by omega
 refine Zp rfl (gl_spell 8 (v := .int .u64 (ex : Nat)) rfl ?_ ?_)
 ·show Value.int .u64 (bits .and .u64 ((u : Int) / 2 ^ 52) 2047) = _
  rw [e1, mu64_and2047 _ (by omega), hex]
 refine Zp rfl (gl_spell 9 (v := .int .i64 (ex : Nat)) rfl (by show Value.int .i64 (IntKind.i64.wrap ((ex : Nat) : Int)) = _; rw [i64w (by omega)]) ?_)
 refine Zp rfl (gl_nil (hK2 _ _ (gc_seq fun K3 hK3 => gc_region (Zp rfl (Zp rfl (gl_spell 11 (v := .int .u64 (m : Nat)) rfl (by show Value.int .u64 (bits .and .u64 (u : Nat) 4503599627370495) = _; rw [mu64_low52 _ hu, hm]) ?_))))))
 refine Zp rfl (gl_nil (hK3 _ _ (gc_seq fun K4 hK4 => gc_seq fun K5 hK5 => gc_region (Zp rfl (Zp rfl (gl_nil (hK5 _ _ (gc_cond rfl rfl (fun c13 => ?_) (fun c13 => ?_)))))))))
 ·simp only [NN, reduceCtorEq] at c13
  exfalso
  omega
 simp only [NN, reduceCtorEq] at c13
 refine gc_skip (hK4 _ _ (gc_cut (fun a w' => ∃ (M : Nat) (E : Int), Fr 35 a [(0, .int .u64 (u : Nat)), (2, .pointer (some ⟨g2, 0, none⟩)), (4, .int .i64 E), (5, .int .u64 (M : Nat))] ∧ M < 9007199254740992 ∧ M = mantV u ∧ E - 1075 = expoV u ∧ (1 ≤ E ∧ E ≤ 2047) ∧ St w.heap.size w w' [.blk g2 183 [.bool false, .slice none 0 0, .int .i64 0]]) ?_ ?_))
 ·refine gc_seq fun K6 hK6 => gc_region (Zp rfl (Zp rfl (gl_nil (hK6 _ _ (gc_cond rfl rfl (fun c16 => ?_) (fun c16 => ?_))))))
  ·simp only [NN, reduceCtorEq] at c16
   refine gc_region (Zp rfl (Zp rfl (gl_spell 18 (v := .int .u64 ((m + 4503599627370496 : Nat) : Int)) rfl (by show Value.int .u64 (bits .or .u64 (m : Nat) 4503599627370496) = _; rw [mu64_or52 _ (by omega)]) ?_)))
   refine Zp rfl (gl_nil ?_)
   intro a ha
   refine ⟨_, _, ha.sub ⟨rfl, rfl, rfl, rfl, trivial⟩, ?_, ?_, ?_, ?_, hS⟩
   ·omega
   ·unfold mantV; rw [← hex]; split <;> omega
   ·unfold expoV; rw [← hex]; split <;> omega
   omega
  simp only [NN, reduceCtorEq] at c16
  refine gc_region (Zp rfl (gl_nil ?_))
  intro a ha
  refine ⟨_, _, ha.sub ⟨rfl, rfl, rfl, rfl, trivial⟩, ?_, ?_, ?_, ?_, hS⟩
  ·omega
  ·unfold mantV; rw [← hex]; split <;> omega
  ·unfold expoV; rw [← hex]; split <;> omega
  omega
 rintro a w1 ⟨M, E, hF, hM, hM1, hE1, hE, hS⟩
 refine gc_of hF ?_
 clear hF
 refine gc_seq fun K7 hK7 => gc_seq fun K8 hK8 => gc_region (Zp rfl (Zp rfl (gl_nil (hK8 _ _ (gc_cond rfl rfl (fun c20 => ?_) (fun c20 => ?_))))))
 ·simp only [NN, reduceCtorEq] at c20
  refine gc_seq fun K9 hK9 => gc_region (gl_op rfl rfl rfl (op_buildG rfl plan183 rfl rfl) ?_)
  refine gl_storeM 0 hS el183 rfl rfl rfl rfl rfl rfl rfl rfl rfl fun w_153 hS => ?_
  refine Zp rfl (gl_nil (hK9 _ _ (gc_ret ?_)))
  simp only [XR]
  refine gk_res2 rfl (⟨_, rfl, run_loadVarB 0 Tryz.underlying183 rfl el183 hS rfl rfl rfl⟩) (rfl) ?_
  have hM0 : mantV u = 0 := by omega
  exact ⟨⟨false, none, 0, 0, 0⟩, [], _, rfl, hS.keepAll, ⟨fun _ => hM0, fun _ => rfl⟩, fun h => absurd rfl h⟩
 simp only [NN, reduceCtorEq] at c20
 refine gc_skip (hK7 _ _ (gc_seq fun K10 hK10 => gc_region (Zp rfl (Zp rfl (Zp rfl (Zp rfl (Zp rfl (gl_spell 26 (v := w4 (M % 4294967296)) rfl (by show Value.int .u32 (IntKind.u32.wrap ((M : Nat) : Int)) = _; rw [u32w]) ?_))))))))
 refine Zp rfl (Zp rfl (Zp rfl (gl_spell 29 (v := w4 (M / 4294967296 % 4294967296)) rfl (by show Value.int .u32 (IntKind.u32.wrap (((M : Nat) : Int) / 2 ^ 32)) = _; rw [u32d, u32w]) ?_)))
 refine gl_lit hT hS el144 rfl rfl rfl rfl rfl rfl rfl rfl rfl fun g30 w30 hS => ?_
 refine gl_callf rfl rfl rfl rfl Tryz.func114 rfl rfl rfl (trimW_calls _ _ _ [M % 4294967296, M / 4294967296 % 4294967296] _ (hS.rdE (i := 1) rfl) rfl (show 2 ≤ 2 from Nat.le_refl 2) (show 2 ≤ 4611686018427387904 by decide)) ?_
 rintro _ _ ⟨n31, rfl, hn1, hn2, hn3, q31, rfl⟩
 refine ⟨_, rfl, ?_⟩
 have hS := hS.dr q31
 refine Zp rfl (Zi rfl (by omega) ?_)
 refine gl_op rfl rfl rfl (op_buildG rfl plan183 rfl rfl) ?_
 refine gl_storeM 0 hS el183 rfl rfl rfl rfl rfl rfl rfl rfl rfl fun w_155 hS => ?_
 refine Zp rfl (gl_nil (hK10 _ _ (gc_ret ?_)))
 simp only [XR]
 refine gk_res2 rfl (⟨_, rfl, run_loadVarB 0 Tryz.underlying183 rfl el183 hS rfl rfl rfl⟩) (rfl) ?_
 have hM0 : M ≠ 0 := by omega
 rw [nv_two M (by omega)] at hn2
 have hn0 : n31 ≠ 0 := by
  rintro rfl
  exact hM0 hn2.symm
 have hrd : RdE _ (fun b => ∃ it ∈ [It.blk g2 183 [.bool (decide ((u : Int) / 2 ^ min 63 IntKind.u64.bits = 1)), .slice (some ⟨g30, 0, none⟩) n31 2, .int .i64 (E - 1075)], .row (some ⟨g30, 0, none⟩) 2 144 1 2 ([M % 4294967296, M / 4294967296 % 4294967296].map w4)], it.fp b) w4 (some ⟨g30, 0, none⟩) [M % 4294967296, M / 4294967296 % 4294967296] := hS.rowRd (i := 1) rfl (keep_mem (.tail _ (.head _)))
 have hl31 : ([M % 4294967296, M / 4294967296 % 4294967296].take n31).length = n31 := by rw [List.length_take]; exact Nat.min_eq_left hn1
 refine ⟨⟨decide ((u : Int) / 2 ^ min 63 IntKind.u64.bits = 1), some ⟨g30, 0, none⟩, n31, 2, E - 1075⟩, [M % 4294967296, M / 4294967296 % 4294967296].take n31, _, rfl, hS.keepAll, ⟨fun h => absurd h hn0, fun h => by omega⟩, fun _ => ⟨⟨hrd.take n31, hl31.symm, ?_, wOk_take (fun z hz => ?_) n31, hn3, ⟨?_, by omega⟩⟩, by rw [hn2, hM1], hE1, ?_⟩⟩
 ·show _ ≤ 2
  rw [hl31]
  exact hn1
 ·rcases List.mem_cons.1 hz with rfl | hz
  ·exact Nat.mod_lt _ (by decide)
  rw [List.mem_singleton.1 hz]; exact Nat.mod_lt _ (by decide)
 ·rw [hl31]
  have : n31 ≤ 2 := hn1
  omega
 show decide ((u : Int) / 2 ^ min 63 IntKind.u64.bits = 1) = decide (9223372036854775808 ≤ u)
 have e : min 63 IntKind.u64.bits = 63 := rfl
 rw [e]
 exact decide_eq_decide.2 (by omega)
theorem oneV : mantV 4607182418800017408 = 4503599627370496 ∧ expoV 4607182418800017408 = -52 := by decide
theorem read_number {u : Nat} (hu : u < 18446744073709551616) (hn : nmB u = true) : Ieee.Format.read FloatKind.f64.format u = .number (decide (9223372036854775808 ≤ u)) (mantV u) (expoV u) := by
 have hne : u / 4503599627370496 % 2048 ≠ 2047 := by unfold nmB at hn; simpa using hn
 have e1 : FloatKind.f64.format.signWeight = 9223372036854775808 := by decide
 have e2 : FloatKind.f64.format.binade = 4503599627370496 := by decide
 have e3 : FloatKind.f64.format.infRung = 9218868437227405312 := by decide
 have e4 : FloatKind.f64.format.leastPlace = -1074 := by decide
 unfold Ieee.Format.read
 rw [e1, e2, e3, e4]
 have hs : (u / 9223372036854775808 % 2 == 1) = decide (9223372036854775808 ≤ u) := by
  rw [Bool.eq_iff_iff]
  simp only [beq_iff_eq, decide_eq_true_eq]
  omega
 simp only [hs]
 unfold mantV expoV
 by_cases h0 : u / 4503599627370496 % 2048 = 0
 ·rw [if_pos (show u % 9223372036854775808 < 4503599627370496 by omega), if_pos h0, if_pos h0]
  congr 1
  omega
 rw [if_neg (show ¬ u % 9223372036854775808 < 4503599627370496 by omega), if_pos (show u % 9223372036854775808 < 9218868437227405312 by omega), if_neg h0, if_neg h0]
 congr 1
 ·omega
 omega
theorem shl_pow (m k : Nat) : m <<< k = m * 2 ^ k := Nat.shiftLeft_eq m k
theorem lt_order {u : Nat} (hu : u < 18446744073709551616) (hn : nmB u = true) : (FloatKind.f64.format.order u 0 == some Ordering.lt) = decide (9223372036854775808 ≤ u ∧ mantV u ≠ 0) := by
 have h0 : Ieee.Format.read FloatKind.f64.format 0 = .number false 0 (-1074) := by decide
 unfold Ieee.Format.order
 rw [read_number hu hn, h0]
 unfold Ieee.Datum.order
 simp only
 generalize (expoV u - min (expoV u) (-1074)).toNat = k1
 generalize (-1074 - min (expoV u) (-1074)).toNat = k2
 unfold Ieee.signed
 rw [shl_pow, shl_pow, Nat.zero_mul]
 have hp : 0 < 2 ^ k1 := Nat.two_pow_pos k1
 rw [Bool.eq_iff_iff]
 simp only [beq_iff_eq, decide_eq_true_eq, Option.some.injEq, Int.compare_eq_lt, Bool.false_eq_true, if_false]
 by_cases hs : 9223372036854775808 ≤ u
 ·rw [if_pos hs]
  constructor
  ·intro h
   refine ⟨hs, fun h2 => ?_⟩
   rw [h2, Nat.zero_mul] at h
   exact absurd h (by decide)
  rintro ⟨_, h⟩
  have : 0 < mantV u * 2 ^ k1 := Nat.mul_pos (Nat.pos_of_ne_zero h) hp
  omega
 rw [if_neg hs]
 constructor
 ·intro h; omega
 rintro ⟨h, _⟩; exact absurd h hs
theorem gt_order {u : Nat} (hu : u < 18446744073709551616) (hn : nmB u = true) : (FloatKind.f64.format.order u 4607182418800017408 == some Ordering.gt) = decide (¬ 9223372036854775808 ≤ u ∧ 4503599627370496 * 2 ^ (-52 - expoV u).toNat < mantV u * 2 ^ (expoV u + 52).toNat) := by
 have h0 : Ieee.Format.read FloatKind.f64.format 4607182418800017408 = .number false 4503599627370496 (-52) := by decide
 unfold Ieee.Format.order
 rw [read_number hu hn, h0]
 unfold Ieee.Datum.order
 simp only
 rw [show (expoV u - min (expoV u) (-52)).toNat = (expoV u + 52).toNat by omega, show (-52 - min (expoV u) (-52)).toNat = (-52 - expoV u).toNat by omega]
 generalize (expoV u + 52).toNat = k1
 generalize (-52 - expoV u).toNat = k2
 unfold Ieee.signed
 rw [shl_pow, shl_pow]
 have hp : 0 < 2 ^ k2 := Nat.two_pow_pos k2
 rw [Bool.eq_iff_iff]
 simp only [beq_iff_eq, decide_eq_true_eq, Option.some.injEq, Int.compare_eq_gt, Bool.false_eq_true, if_false]
 by_cases hs : 9223372036854775808 ≤ u
 ·rw [if_pos hs]
  constructor
  ·intro h; omega
  rintro ⟨h, _⟩; exact absurd hs h
 rw [if_neg hs]
 constructor
 ·intro h; exact ⟨hs, by omega⟩
 rintro ⟨_, h⟩; omega
theorem aOut_t {u : Nat} (hu : u < 18446744073709551616) (hn : nmB u = true) (h : (9223372036854775808 ≤ u ∧ mantV u ≠ 0) ∨ (¬ 9223372036854775808 ≤ u ∧ 4503599627370496 * 2 ^ (-52 - expoV u).toNat < mantV u * 2 ^ (expoV u + 52).toNat)) : aOut u = true := by
 unfold aOut
 rw [lt_order hu hn, gt_order hu hn]
 rcases h with h | h
 ·rw [decide_eq_true h, Bool.true_or]
 rw [decide_eq_true h, Bool.or_true]
theorem aOut_f {u : Nat} (hu : u < 18446744073709551616) (hn : nmB u = true) (h1 : ¬ (9223372036854775808 ≤ u ∧ mantV u ≠ 0)) (h2 : ¬ (¬ 9223372036854775808 ≤ u ∧ 4503599627370496 * 2 ^ (-52 - expoV u).toNat < mantV u * 2 ^ (expoV u + 52).toNat)) : ¬ aOut u = true := by
 unfold aOut
 rw [lt_order hu hn, gt_order hu hn, decide_eq_false h1, decide_eq_false h2]
 decide
def slopeW (L : Ly) : Int := if ¬ (L.k = 4 ∨ L.k = 8) then (if L.a ≠ 0 then 62 else 0) else if nmB L.a = false then 64 else if L.k = 8 ∧ aOut L.a = true then 62 else 0
theorem slopeW_fields {L : Ly} (h1 : ¬ (L.k < 1 ∨ 12 < L.k)) (h2 : fldOk L) : fieldsV L = slopeW L := by
 unfold fieldsV slopeW bndA
 rw [if_neg h1, if_neg (fun h => h h2)]
 by_cases hk : L.k = 4 ∨ L.k = 8
 ·rw [decide_eq_true hk]
  simp only [hk, not_true_eq_false, if_false, Bool.true_eq_false, false_and, true_and]
 rw [decide_eq_false hk]
 simp only [hk, not_false_eq_true, if_true, true_and, Bool.false_eq_true, false_and, if_false]
 by_cases ha : L.a ≠ 0
 ·rw [if_pos ha, if_pos ha]
 rw [if_neg ha, if_neg ha, if_neg (fun h => hk (.inr h.1))]
theorem expo_bd (u : Nat) : -1074 ≤ expoV u ∧ expoV u ≤ 972 := by
 unfold expoV
 split <;> omega
set_option maxRecDepth 100000 in
theorem slopeW_calls (L : Ly) (w : World) (ha : L.a < 18446744073709551616) : Calls Tryz.prog 85 ⟨[.agg ⟨rlC L⟩]⟩ w fun e w' => e = .returned (.int .i64 (slopeW L)) ∧ Below w.heap.size w w' := by
 refine gc_enter (N := 46) Tryz.func85 rfl rfl rfl [(0, _)] rfl ?_
 have hS := St.start w
 refine gc_seq fun K1 hK1 => gc_region (gl_box hS rfl rfl rfl rfl rfl fun g1 w1 hS => ?_)
 refine Zp rfl (gl_nil (hK1 _ _ (gc_seq fun K2 hK2 => gc_seq fun K3 hK3 => gc_region (Zf 0 Tryz.underlying81 rfl el3 (Zb 0 hS rfl (Zp rfl (Zp rfl (gl_split (t := 10) rfl (fun c10 => ?_) (fun c10 => ?_)))))))))
 ·simp only [NN, reduceCtorEq] at c10
  refine Zu rfl (Zf 0 Tryz.underlying81 rfl el3 (Zu rfl (Zb 0 hS rfl (Zu rfl (Zp rfl (Zp rfl (gl_nil (hK3 _ _ (gc_cond rfl rfl (fun c14 => ?_) (fun c14 => ?_))))))))))
  ·simp only [NN, reduceCtorEq] at c14
   refine gc_seq fun K4 hK4 => gc_seq fun K5 hK5 => gc_region (Zf 9 Tryz.underlying81 rfl el77 (Zb 0 hS rfl (Zp rfl (gl_nil (hK5 _ _ (gc_cond rfl rfl (fun c17 => ?_) (fun c17 => ?_)))))))
   ·simp only [NN, reduceCtorEq] at c17
    refine gc_seq fun K6 hK6 => gc_region (Zp rfl (gl_nil (hK6 _ _ (gc_ret ?_))))
    simp only [XR]
    refine gk_ret1 rfl rfl ?_
    refine ⟨?_, hS.below⟩
    unfold slopeW
    rw [if_pos (by omega), if_pos (by omega)]; done
   simp only [NN, reduceCtorEq] at c17
   refine gc_skip (hK4 _ _ (gc_seq fun K7 hK7 => gc_region (Zp rfl (gl_nil (hK7 _ _ (gc_ret ?_))))))
   simp only [XR]
   refine gk_ret1 rfl rfl ?_
   refine ⟨?_, hS.below⟩
   unfold slopeW
   rw [if_pos (by omega), if_neg (by omega)]; done
  simp only [NN, reduceCtorEq] at c14
  refine gc_skip (hK2 _ _ (gc_seq fun K8 hK8 => gc_seq fun K9 hK9 => gc_region (Zf 9 Tryz.underlying81 rfl el77 (Zb 0 hS rfl (gl_callf rfl rfl rfl rfl Tryz.func104 rfl rfl rfl (fNumber_calls L.a ha _) ?_)))))
  rintro _ _ ⟨rfl, n20, rfl⟩
  refine ⟨_, rfl, ?_⟩
  have hS := hS.dr n20
  refine Zp rfl (gl_nil (hK9 _ _ (gc_cond rfl rfl (fun c21 => ?_) (fun c21 => ?_))))
  ·simp only [NN, reduceCtorEq] at c21
   refine gc_seq fun K10 hK10 => gc_region (Zp rfl (gl_nil (hK10 _ _ (gc_ret ?_))))
   simp only [XR]
   refine gk_ret1 rfl rfl ?_
   refine ⟨?_, hS.below⟩
   unfold slopeW
   rw [if_neg (by omega), if_pos c21]; done
  simp only [NN, reduceCtorEq] at c21
  refine gc_skip (hK8 _ _ (gc_seq fun K11 hK11 => gc_region (Zf 9 Tryz.underlying81 rfl el77 (Zb 0 hS rfl (gl_callf rfl rfl rfl rfl Tryz.func105 rfl rfl rfl (ofW_calls L.a ha c21 _) ?_)))))
  rintro _ w25 ⟨x25, l25, K25, rfl, h25, hx0, hx1⟩
  refine ⟨_, rfl, ?_⟩
  have hS := hS.more h25
  have hlo := lt_order ha c21
  have hgo := gt_order ha c21
  have hex := expo_bd L.a
  refine Zp rfl (Zp rfl (Zp rfl (gl_alloc el183 hS rfl rfl rfl rfl fun g3 w3 hS => ?_)))
  refine gl_storeM 2 hS el183 rfl rfl rfl rfl rfl rfl rfl rfl rfl fun w_119 hS => ?_
  refine Zp rfl (gl_nil (hK11 _ _ (gc_seq fun K12 hK12 => gc_region (gl_callf rfl rfl rfl rfl Tryz.func105 rfl rfl rfl (ofW_calls 4607182418800017408 (by decide) (by decide) _) ?_))))
  rintro _ w29 ⟨x29, l29, K29, rfl, h29, hy0, hy1⟩
  refine ⟨_, rfl, ?_⟩
  have hS := hS.more h29
  have hyn : x29.n ≠ 0 := fun h => by rw [oneV.1] at hy0; exact absurd (hy0.1 h) (by decide)
  obtain ⟨hyW, hyv, hye, hyg⟩ := hy1 hyn
  rw [oneV.1] at hyv
  rw [oneV.2] at hye
  have hyg : x29.neg = false := hyg
  have hsn : (if x25.n = 0 then (0 : Int) else if x25.neg = true then -1 else 1) < 0 ↔ (9223372036854775808 ≤ L.a ∧ mantV L.a ≠ 0) := by
   by_cases h0 : x25.n = 0
   ·rw [if_pos h0]
    exact ⟨fun h => absurd h (by decide), fun h => absurd (hx0.1 h0) h.2⟩
   rw [if_neg h0, (hx1 h0).2.2.2]
   by_cases hs : 9223372036854775808 ≤ L.a
   ·rw [if_pos (by simpa using hs)]
    exact ⟨fun _ => ⟨hs, fun h => h0 (hx0.2 h)⟩, fun _ => by decide⟩
   rw [if_neg (by simpa using hs)]
   exact ⟨fun h => absurd h (by decide), fun h => absurd h.1 hs⟩
  refine Zp rfl (Zp rfl (Zp rfl (gl_alloc el183 hS rfl rfl rfl rfl fun g5 w5 hS => ?_)))
  refine gl_storeM 4 hS el183 rfl rfl rfl rfl rfl rfl rfl rfl rfl fun w_120 hS => ?_
  refine Zp rfl (gl_nil (hK12 _ _ (gc_seq fun K13 hK13 => gc_seq fun K14 hK14 => gc_region (Zf 0 Tryz.underlying81 rfl el3 (Zb 0 hS rfl (Zp rfl (Zp rfl (gl_split (t := 35) rfl (fun c35 => ?_) (fun c35 => ?_)))))))))
  ·simp only [NN, reduceCtorEq] at c35
   refine Zu rfl (Zg 2 Tryz.underlying183 el183 hS rfl (Zu rfl (gl_callf rfl rfl rfl rfl Tryz.func106 rfl rfl rfl (sign_calls x25 _) ?_)))
   rintro _ w37 ⟨rfl, hb37⟩
   refine ⟨_, rfl, ?_⟩
   have hS := hS.grown hb37
   refine Zu rfl (Zp rfl (Zu rfl (Zp rfl (gl_split (t := 39) rfl (fun c39 => ?_) (fun c39 => ?_)))))
   ·simp only [NN, reduceCtorEq] at c39
    refine Zs rfl (Zs rfl (Zs rfl (Zs rfl (Zu rfl (Zp rfl (Zp rfl (gl_nil (hK14 _ _ (gc_cond_t rfl (gc_seq fun K15 hK15 => gc_region (Zp rfl (gl_nil (hK15 _ _ (gc_ret ?_))))))))))))))
    simp only [XR]
    refine gk_ret1 rfl rfl ?_
    refine ⟨?_, hS.below⟩
    unfold slopeW
    rw [if_neg (by omega), if_neg (by rw [c21]; simp), if_pos ⟨by omega, aOut_t ha c21 (.inl (hsn.1 (by omega)))⟩]; done
   simp only [NN, reduceCtorEq] at c39
   refine Zu rfl (Zg 2 Tryz.underlying183 el183 hS rfl (Zu rfl (Zg 4 Tryz.underlying183 el183 hS rfl (Zu rfl ?_))))
   have hsg : ¬ (9223372036854775808 ≤ L.a ∧ mantV L.a ≠ 0) := fun h => by have h2 := hsn.2 h; omega
   have hxz := (Decidable.em (x25.n = 0)).imp id (fun h0 => And.intro (NmW.keep hS (i := 1) rfl (hx1 h0).1) (show x25.neg = false by rw [(hx1 h0).2.2.2]; exact decide_eq_false fun h => hsg ⟨h, fun h5 => h0 (hx0.2 h5)⟩))
   have hez : x25.n = 0 ∨ (-1100 ≤ x25.e ∧ x25.e ≤ 1000 ∧ -1100 ≤ x29.e ∧ x29.e ≤ 1000) := by
    by_cases h0 : x25.n = 0
    ·exact .inl h0
    have h3 := (hx1 h0).2.2.1
    exact .inr (by omega)
   refine gl_callf rfl rfl rfl rfl Tryz.func107 rfl rfl rfl (cmpZ_calls x25 x29 l25 l29 _ hxz (NmW.keep hS (i := 3) rfl hyW) hez hyg) ?_
   rintro _ w42 ⟨s42, rfl, hs42, hb42⟩
   refine ⟨_, rfl, ?_⟩
   have hS := hS.grown hb42
   have hcm : 0 < s42 ↔ (¬ 9223372036854775808 ≤ L.a ∧ 4503599627370496 * 2 ^ (-52 - expoV L.a).toNat < mantV L.a * 2 ^ (expoV L.a + 52).toNat) := by
    rw [hs42]
    by_cases h0 : x25.n = 0
    ·have hm := hx0.1 h0
     exact ⟨fun h => absurd h0 h.1, fun h => by rw [hm, Nat.zero_mul] at h; omega⟩
    obtain ⟨h1, h2, h3, h4⟩ := hx1 h0
    rw [h2, h3, hyv, hye, show (expoV L.a - -52) = expoV L.a + 52 by omega]
    exact ⟨fun h => ⟨fun h5 => hsg ⟨h5, fun h6 => h0 (hx0.2 h6)⟩, h.2⟩, fun h => ⟨h0, h.2⟩⟩
   refine Zu rfl (Zp rfl (Zu rfl (Zp rfl (Zp rfl (gl_nil (hK14 _ _ (gc_cond rfl rfl (fun c45 => ?_) (fun c45 => ?_))))))))
   ·simp only [NN, reduceCtorEq] at c45
    refine gc_seq fun K16 hK16 => gc_region (Zp rfl (gl_nil (hK16 _ _ (gc_ret ?_))))
    simp only [XR]
    refine gk_ret1 rfl rfl ?_
    refine ⟨?_, hS.below⟩
    unfold slopeW
    rw [if_neg (by omega), if_neg (by rw [c21]; simp), if_pos ⟨by omega, aOut_t ha c21 (.inr (hcm.1 (by omega)))⟩]; done
   simp only [NN, reduceCtorEq] at c45
   refine gc_skip (hK13 _ _ (gc_seq fun K17 hK17 => gc_region (Zp rfl (gl_nil (hK17 _ _ (gc_ret (gk_ret1 rfl rfl ?_)))))))
   refine ⟨?_, hS.below⟩
   unfold slopeW
   rw [if_neg (by omega), if_neg (by rw [c21]; simp), if_neg (fun h => aOut_f ha c21 (fun h2 => by have h3 := hsn.2 h2; omega) (fun h2 => by have h3 := hcm.2 h2; omega) h.2)]; done
  simp only [NN, reduceCtorEq] at c35
  refine Zs rfl (Zs rfl (Zs rfl (Zs rfl (gl_none rfl rfl rfl rfl rfl ?_))))
  refine gl_none rfl rfl rfl rfl rfl ?_
  refine gl_none rfl rfl rfl rfl rfl ?_
  refine gl_none rfl rfl rfl rfl rfl ?_
  refine Zs rfl (Zp rfl (gl_nil (hK14 _ _ (gc_cond_f rfl (gc_skip (hK13 _ _ (gc_seq fun K18 hK18 => gc_region (Zp rfl (gl_nil (hK18 _ _ (gc_ret (gk_ret1 rfl rfl ?_))))))))))))
  refine ⟨?_, hS.below⟩
  unfold slopeW
  rw [if_pos (by omega), if_neg (by omega)]; done
 simp only [NN, reduceCtorEq] at c10
 refine Zs rfl (Zs rfl (Zs rfl (Zp rfl (gl_nil (hK3 _ _ (gc_cond_f rfl (gc_skip (hK2 _ _ (gc_seq fun K19 hK19 => gc_seq fun K20 hK20 => gc_region (Zf 9 Tryz.underlying81 rfl el77 (Zb 0 hS rfl (gl_callf rfl rfl rfl rfl Tryz.func104 rfl rfl rfl (fNumber_calls L.a ha _) ?_))))))))))))
 rintro _ _ ⟨rfl, n20, rfl⟩
 refine ⟨_, rfl, ?_⟩
 have hS := hS.dr n20
 refine Zp rfl (gl_nil (hK20 _ _ (gc_cond rfl rfl (fun c21 => ?_) (fun c21 => ?_))))
 ·simp only [NN, reduceCtorEq] at c21
  refine gc_seq fun K21 hK21 => gc_region (Zp rfl (gl_nil (hK21 _ _ (gc_ret ?_))))
  simp only [XR]
  refine gk_ret1 rfl rfl ?_
  refine ⟨?_, hS.below⟩
  unfold slopeW
  rw [if_neg (by omega), if_pos c21]; done
 simp only [NN, reduceCtorEq] at c21
 refine gc_skip (hK19 _ _ (gc_seq fun K22 hK22 => gc_region (Zf 9 Tryz.underlying81 rfl el77 (Zb 0 hS rfl (gl_callf rfl rfl rfl rfl Tryz.func105 rfl rfl rfl (ofW_calls L.a ha c21 _) ?_)))))
 rintro _ w25 ⟨x25, l25, K25, rfl, h25, hx0, hx1⟩
 refine ⟨_, rfl, ?_⟩
 have hS := hS.more h25
 have hlo := lt_order ha c21
 have hgo := gt_order ha c21
 have hex := expo_bd L.a
 refine Zp rfl (Zp rfl (Zp rfl (gl_alloc el183 hS rfl rfl rfl rfl fun g3 w3 hS => ?_)))
 refine gl_storeM 2 hS el183 rfl rfl rfl rfl rfl rfl rfl rfl rfl fun w_119 hS => ?_
 refine Zp rfl (gl_nil (hK22 _ _ (gc_seq fun K23 hK23 => gc_region (gl_callf rfl rfl rfl rfl Tryz.func105 rfl rfl rfl (ofW_calls 4607182418800017408 (by decide) (by decide) _) ?_))))
 rintro _ w29 ⟨x29, l29, K29, rfl, h29, hy0, hy1⟩
 refine ⟨_, rfl, ?_⟩
 have hS := hS.more h29
 have hyn : x29.n ≠ 0 := fun h => by rw [oneV.1] at hy0; exact absurd (hy0.1 h) (by decide)
 obtain ⟨hyW, hyv, hye, hyg⟩ := hy1 hyn
 rw [oneV.1] at hyv
 rw [oneV.2] at hye
 have hyg : x29.neg = false := hyg
 have hsn : (if x25.n = 0 then (0 : Int) else if x25.neg = true then -1 else 1) < 0 ↔ (9223372036854775808 ≤ L.a ∧ mantV L.a ≠ 0) := by
  by_cases h0 : x25.n = 0
  ·rw [if_pos h0]
   exact ⟨fun h => absurd h (by decide), fun h => absurd (hx0.1 h0) h.2⟩
  rw [if_neg h0, (hx1 h0).2.2.2]
  by_cases hs : 9223372036854775808 ≤ L.a
  ·rw [if_pos (by simpa using hs)]
   exact ⟨fun _ => ⟨hs, fun h => h0 (hx0.2 h)⟩, fun _ => by decide⟩
  rw [if_neg (by simpa using hs)]
  exact ⟨fun h => absurd h (by decide), fun h => absurd h.1 hs⟩
 refine Zp rfl (Zp rfl (Zp rfl (gl_alloc el183 hS rfl rfl rfl rfl fun g5 w5 hS => ?_)))
 refine gl_storeM 4 hS el183 rfl rfl rfl rfl rfl rfl rfl rfl rfl fun w_120 hS => ?_
 refine Zp rfl (gl_nil (hK23 _ _ (gc_seq fun K24 hK24 => gc_seq fun K25 hK25 => gc_region (Zf 0 Tryz.underlying81 rfl el3 (Zb 0 hS rfl (Zp rfl (Zp rfl (gl_split (t := 35) rfl (fun c35 => ?_) (fun c35 => ?_)))))))))
 ·simp only [NN, reduceCtorEq] at c35
  refine Zu rfl (Zg 2 Tryz.underlying183 el183 hS rfl (Zu rfl (gl_callf rfl rfl rfl rfl Tryz.func106 rfl rfl rfl (sign_calls x25 _) ?_)))
  rintro _ w37 ⟨rfl, hb37⟩
  refine ⟨_, rfl, ?_⟩
  have hS := hS.grown hb37
  refine Zu rfl (Zp rfl (Zu rfl (Zp rfl (gl_split (t := 39) rfl (fun c39 => ?_) (fun c39 => ?_)))))
  ·simp only [NN, reduceCtorEq] at c39
   refine Zs rfl (Zs rfl (Zs rfl (Zs rfl (Zu rfl (Zp rfl (Zp rfl (gl_nil (hK25 _ _ (gc_cond_t rfl (gc_seq fun K26 hK26 => gc_region (Zp rfl (gl_nil (hK26 _ _ (gc_ret ?_))))))))))))))
   simp only [XR]
   refine gk_ret1 rfl rfl ?_
   refine ⟨?_, hS.below⟩
   unfold slopeW
   rw [if_pos (by omega), if_pos (by omega)]; done
  simp only [NN, reduceCtorEq] at c39
  refine Zu rfl (Zg 2 Tryz.underlying183 el183 hS rfl (Zu rfl (Zg 4 Tryz.underlying183 el183 hS rfl (Zu rfl ?_))))
  have hsg : ¬ (9223372036854775808 ≤ L.a ∧ mantV L.a ≠ 0) := fun h => by have h2 := hsn.2 h; omega
  have hxz := (Decidable.em (x25.n = 0)).imp id (fun h0 => And.intro (NmW.keep hS (i := 1) rfl (hx1 h0).1) (show x25.neg = false by rw [(hx1 h0).2.2.2]; exact decide_eq_false fun h => hsg ⟨h, fun h5 => h0 (hx0.2 h5)⟩))
  have hez : x25.n = 0 ∨ (-1100 ≤ x25.e ∧ x25.e ≤ 1000 ∧ -1100 ≤ x29.e ∧ x29.e ≤ 1000) := by
   by_cases h0 : x25.n = 0
   ·exact .inl h0
   have h3 := (hx1 h0).2.2.1
   exact .inr (by omega)
  refine gl_callf rfl rfl rfl rfl Tryz.func107 rfl rfl rfl (cmpZ_calls x25 x29 l25 l29 _ hxz (NmW.keep hS (i := 3) rfl hyW) hez hyg) ?_
  rintro _ w42 ⟨s42, rfl, hs42, hb42⟩
  refine ⟨_, rfl, ?_⟩
  have hS := hS.grown hb42
  have hcm : 0 < s42 ↔ (¬ 9223372036854775808 ≤ L.a ∧ 4503599627370496 * 2 ^ (-52 - expoV L.a).toNat < mantV L.a * 2 ^ (expoV L.a + 52).toNat) := by
   rw [hs42]
   by_cases h0 : x25.n = 0
   ·have hm := hx0.1 h0
    exact ⟨fun h => absurd h0 h.1, fun h => by rw [hm, Nat.zero_mul] at h; omega⟩
   obtain ⟨h1, h2, h3, h4⟩ := hx1 h0
   rw [h2, h3, hyv, hye, show (expoV L.a - -52) = expoV L.a + 52 by omega]
   exact ⟨fun h => ⟨fun h5 => hsg ⟨h5, fun h6 => h0 (hx0.2 h6)⟩, h.2⟩, fun h => ⟨h0, h.2⟩⟩
  refine Zu rfl (Zp rfl (Zu rfl (Zp rfl (Zp rfl (gl_nil (hK25 _ _ (gc_cond rfl rfl (fun c45 => ?_) (fun c45 => ?_))))))))
  ·simp only [NN, reduceCtorEq] at c45
   refine gc_seq fun K27 hK27 => gc_region (Zp rfl (gl_nil (hK27 _ _ (gc_ret ?_))))
   simp only [XR]
   refine gk_ret1 rfl rfl ?_
   refine ⟨?_, hS.below⟩
   unfold slopeW
   rw [if_pos (by omega), if_pos (by omega)]; done
  simp only [NN, reduceCtorEq] at c45
  refine gc_skip (hK24 _ _ (gc_seq fun K28 hK28 => gc_region (Zp rfl (gl_nil (hK28 _ _ (gc_ret (gk_ret1 rfl rfl ?_)))))))
  refine ⟨?_, hS.below⟩
  unfold slopeW
  rw [if_pos (by omega), if_neg (by omega)]; done
 simp only [NN, reduceCtorEq] at c35
 refine Zs rfl (Zs rfl (Zs rfl (Zs rfl (gl_none rfl rfl rfl rfl rfl ?_))))
 refine gl_none rfl rfl rfl rfl rfl ?_
 refine gl_none rfl rfl rfl rfl rfl ?_
 refine gl_none rfl rfl rfl rfl rfl ?_
 refine Zs rfl (Zp rfl (gl_nil (hK25 _ _ (gc_cond_f rfl (gc_skip (hK24 _ _ (gc_seq fun K29 hK29 => gc_region (Zp rfl (gl_nil (hK29 _ _ (gc_ret (gk_ret1 rfl rfl ?_))))))))))))
 refine ⟨?_, hS.below⟩
 unfold slopeW
 rw [if_neg (by omega), if_neg (by rw [c21]; simp), if_neg (fun h => absurd h.1 (by omega))]; done
set_option maxHeartbeats 2000000 in
set_option maxRecDepth 100000 in
theorem fFieldsW_calls (L : Ly) (w : World) (hL : L.ok) : Calls Tryz.prog 61 ⟨[.agg ⟨rlC L⟩]⟩ w fun e w' => e = .returned (.int .i64 (fieldsV L)) ∧ Below w.heap.size w w' := by
 have hfits := fits_iff L
 refine gc_enter (N := 48) Tryz.func61 rfl rfl rfl [(0, _)] rfl ?_
 have hS := St.start w
 refine gc_seq fun K1 hK1 => gc_region (gl_box hS rfl rfl rfl rfl rfl fun g1 w1 hS => ?_)
 refine Zp rfl (gl_nil (hK1 _ _ (gc_seq fun K2 hK2 => gc_seq fun K3 hK3 => gc_region (Zf 0 Tryz.underlying81 rfl el3 (Zb 0 hS rfl (gl_callf rfl rfl rfl rfl Tryz.func83 rfl rfl rfl (fWithin_calls L.k 1 12 _) ?_))))))
 rintro _ _ ⟨rfl, n8, rfl⟩
 refine ⟨_, rfl, ?_⟩
 have hS := hS.dr n8
 refine Zp rfl (gl_nil (hK3 _ _ (gc_cond rfl rfl (fun c9 => ?_) (fun c9 => ?_))))
 ·simp only [NN, reduceCtorEq] at c9
  refine gc_seq fun K4 hK4 => gc_region (Zp rfl (gl_nil (hK4 _ _ (gc_ret ?_))))
  simp only [XR]
  refine gk_ret1 rfl rfl ?_
  exact ⟨by rw [fv_61 (by omega)], hS.below⟩
 simp only [NN, reduceCtorEq] at c9
 refine gc_skip (hK2 _ _ (gc_seq fun K5 hK5 => gc_region (Zf 1 Tryz.underlying81 rfl el3 (Zb 0 hS rfl (Zf 2 Tryz.underlying81 rfl el3 (Zb 0 hS rfl (Zf 3 Tryz.underlying81 rfl el3 (Zb 0 hS rfl (Zf 4 Tryz.underlying81 rfl el3 (Zb 0 hS rfl (Zf 5 Tryz.underlying81 rfl el3 (Zb 0 hS rfl (Zf 6 Tryz.underlying81 rfl el3 (Zb 0 hS rfl (Zf 7 Tryz.underlying81 rfl el3 (Zb 0 hS rfl (Zf 8 Tryz.underlying81 rfl el3 (Zb 0 hS rfl (gl_op rfl rfl rfl (op_buildG rfl plan120 rfl rfl) ?_)))))))))))))))))))
 refine gl_alloc el120 hS rfl rfl rfl rfl fun g3 w3 hS => ?_
 refine gl_storeM 1 hS el120 rfl rfl rfl rfl rfl rfl rfl rfl rfl fun w_132 hS => ?_
 refine gl_nil (hK5 _ _ (gc_seq fun K6 hK6 => gc_region (Zg 0 Tryz.underlying81 el81 hS rfl (gl_callf rfl rfl rfl rfl Tryz.func84 rfl rfl rfl (fBounds_calls L _ hL.kh hL.kw) ?_))))
 rintro _ w28 ⟨rfl, hb28⟩
 refine ⟨_, rfl, ?_⟩
 have hS := hS.grown hb28
 refine gl_alloc el158 hS rfl rfl rfl rfl fun g4 w4 hS => ?_
 refine gl_storeM 2 hS el158 rfl rfl rfl rfl rfl rfl (bndC_len L.k L.kh L.kw) rfl (bndC_one L.k L.kh L.kw) fun w_133 hS => ?_
 refine gl_nil (hK6 _ _ (gc_seq fun K7 hK7 => gc_seq fun K8 hK8 => gc_region (Zp rfl (gl_nil (hK8 _ _ (gc_block ?_))))))
 have hS : St w.heap.size w _ [.blk g1 81 (rlC L), .blk g3 120 ((fldI L).map (Value.int .i64)), .blk g4 158 (spliceL [.int .i64 0, .int .i64 0, .int .i64 0, .int .i64 0, .int .i64 0, .int .i64 0, .int .i64 0, .int .i64 0, .int .i64 0, .int .i64 0, .int .i64 0, .int .i64 0, .int .i64 0, .int .i64 0, .int .i64 0, .int .i64 0] 0 (bndC L.k L.kh L.kw))] := hS
 have e1 : spliceL [.int .i64 0, .int .i64 0, .int .i64 0, .int .i64 0, .int .i64 0, .int .i64 0, .int .i64 0, .int .i64 0, .int .i64 0, .int .i64 0, .int .i64 0, .int .i64 0, .int .i64 0, .int .i64 0, .int .i64 0, .int .i64 0] 0 (bndC L.k L.kh L.kw) = bndC L.k L.kh L.kw := by unfold spliceL; rw [bndC_len, List.drop_eq_nil_of_le (by decide)]; simp
 rw [e1] at hS
 refine gc_loop (fun n a' w' => ∃ i : Nat, Fr 48 a' [(1, .pointer (some ⟨g1, 0, none⟩)), (3, .pointer (some ⟨g3, 0, none⟩)), (4, .pointer (some ⟨g4, 0, none⟩)), (5, .int .i64 (i : Nat))] ∧ i ≤ 8 ∧ n = 9 - i ∧ (∀ j, j < i → fitAt L j) ∧
  St w.heap.size w w' [.blk g1 81 (rlC L), .blk g3 120 ((fldI L).map (Value.int .i64)), .blk g4 158 (bndC L.k L.kh L.kw)]) 9 ?_ ?_ ?_
 ·intro a' ha
  exact ⟨0, ha.sub ⟨rfl, rfl, rfl, rfl, trivial⟩, by omega, by omega, fun j hj => by omega, hS⟩
 ·rintro a' w' ⟨i, _, h1, h2, _⟩; omega
 rintro n a' w' ⟨i, hF, hi, hn, hfit, hS⟩
 refine gc_of hF ?_
 clear hF
 refine gc_seq fun K9 hK9 => gc_seq fun K10 hK10 => gc_region (Zp rfl (Zp rfl (gl_nil (hK10 _ _ (gc_cond rfl rfl (fun c30 => ?_) (fun c30 => ?_))))))
 ·simp only [NN, reduceCtorEq] at c30
  refine gc_skip (hK9 _ _ (gc_seq fun K11 hK11 => gc_block (gc_seq fun K12 hK12 => gc_anyS hS (by kernel_rfl) rfl fun nq8 hK => ?_)))
  have hS := hS.dr nq8
  refine Yp 0 rfl (by kernel_rfl) (fun _ _ _ _ h => h) hK ?_
  refine ga_take 1 rfl rfl rfl rfl (by kernel_rfl) (fun _ _ _ _ h => h) hK (fun w1 hS => op_ixA (j := i) rfl Tryz.underlying120 el3 rfl rfl (by omega) (by omega) (by rw [Int.toNat_natCast]; omega)) ?_
  refine ga_take 2 rfl rfl rfl rfl (by kernel_rfl) (fun _ _ _ _ h => h) hK (fun w1 hS => op_loadB 1 hT hS rfl rfl rfl rfl rfl (int_at (fldI L) i (by show i < 8; omega))) ?_
  refine Yp 3 rfl (by kernel_rfl) (fun _ _ _ _ h => h) hK ?_
  refine ga_take 4 rfl rfl rfl rfl (by kernel_rfl) (fun _ _ _ _ h => h) hK (fun w1 hS => op_ixA (j := i * 2) rfl Tryz.underlying158 el157 rfl rfl (by omega) (by omega) (by rw [Int.toNat_natCast]; omega)) ?_
  refine ga_take 5 rfl rfl rfl rfl (by kernel_rfl) (fun _ _ _ _ h => h) hK (fun w1 hS => op_ixA (j := i * 2) rfl Tryz.underlying157 el3 rfl rfl (by decide) (by decide) (by omega)) ?_
  refine ga_take 6 rfl rfl rfl rfl (by kernel_rfl) (fun _ _ _ _ h => h) hK (fun w1 hS => op_loadB 2 hT hS rfl rfl rfl rfl rfl (fbnd_at L.k L.kh L.kw (i * 2) (by omega))) ?_
  refine Yp 7 rfl (by kernel_rfl) (fun _ _ _ _ h => h) hK ?_
  refine ga_take 8 rfl rfl rfl rfl (by kernel_rfl) (fun _ _ _ _ h => h) hK (fun w1 hS => op_ixA (j := i * 2) rfl Tryz.underlying158 el157 rfl rfl (by omega) (by omega) (by rw [Int.toNat_natCast]; omega)) ?_
  refine ga_take 9 rfl rfl rfl rfl (by kernel_rfl) (fun _ _ _ _ h => h) hK (fun w1 hS => op_ixA (j := i * 2 + 1) rfl Tryz.underlying157 el3 rfl rfl (by decide) (by decide) (by omega)) ?_
  refine ga_take 10 rfl rfl rfl rfl (by kernel_rfl) (fun _ _ _ _ h => h) hK (fun w1 hS => op_loadB 2 hT hS rfl rfl rfl rfl rfl (fbnd_at L.k L.kh L.kw (i * 2 + 1) (by omega))) ?_
  refine ga_one 11 (by kernel_rfl) rfl ?_
  refine gl_callf rfl rfl rfl rfl Tryz.func83 rfl rfl rfl (fWithin_calls _ _ _ _) ?_
  rintro _ _ ⟨rfl, n44, rfl⟩
  refine ⟨_, rfl, ?_⟩
  have hS := hS.dr n44
  refine gl_nil (ga_next (hS.pre 3) fun hK => ?_)
  refine Yp 12 rfl (by kernel_rfl) (fun _ _ _ _ h => h) hK ?_
  refine ga_done (by kernel_rfl) ?_
  refine hK12 _ _ (gc_cond rfl rfl (fun c45 => ?_) (fun c45 => ?_))
  ·simp only [NN, reduceCtorEq] at c45
   refine gc_seq fun K13 hK13 => gc_region (Zp rfl (gl_nil (hK13 _ _ (gc_ret ?_))))
   simp only [XR]
   refine gk_ret1 rfl rfl ?_
   refine ⟨?_, hS.below⟩
   rw [fv_62 (by omega)]
   intro hok
   have hx := hfits.2 hok i (by omega)
   unfold fitAt at hx
   rw [Nat.mul_comm 2 i] at hx
   omega
  simp only [NN, reduceCtorEq] at c45
  refine gc_skip (hK11 _ _ (gc_region (Zp rfl (Zi rfl (by omega) ?_))))
  refine Zp rfl (gl_nil ?_)
  intro a' ha
  refine ⟨i + 1, ha.sub ⟨rfl, rfl, rfl, rfl, trivial⟩, by omega, by omega, fun j hj => ?_, hS⟩
  rcases Nat.lt_or_ge j i with h | h
  ·exact hfit j h
  have hj2 : j = i := by omega
  subst hj2
  unfold fitAt
  rw [Nat.mul_comm 2 j]
  omega
 simp only [NN, reduceCtorEq] at c30
 have hok : fldOk L := hfits.1 fun j hj => hfit j (by omega)
 refine gc_exit ?_
 refine hK7 _ _ (gc_seq fun K14 hK14 => gc_region (Zg 0 Tryz.underlying81 el81 hS rfl (gl_callf rfl rfl rfl rfl Tryz.func85 rfl rfl rfl (slopeW_calls L _ hL.a) ?_)))
 rintro _ w47 ⟨rfl, hb47⟩
 refine ⟨_, rfl, ?_⟩
 have hS := hS.grown hb47
 refine Zp rfl (gl_nil (hK14 _ _ (gc_ret (gk_ret1 rfl rfl ?_))))
 exact ⟨by rw [slopeW_fields (by omega) hok], hS.below⟩
set_option maxHeartbeats 2000000 in
set_option maxRecDepth 100000 in
theorem fOutW_calls (L : Ly) (s : Sh) (w : World) (hL : L.ok) (hs : s.ok) : Calls Tryz.prog 33 ⟨[.agg ⟨rlC L⟩, .agg ⟨shC s⟩]⟩ w fun e w' => e = .returned (.tuple #[.agg ⟨shC (outV L s).1⟩, .int .i64 (outV L s).2]) ∧ Below w.heap.size w w' := by
 have hhc := hs.c
 have hhh := hs.h
 have hhw := hs.w
 refine gc_enter (N := 102) Tryz.func33 rfl rfl rfl [(0, _), (1, _)] rfl ?_
 have hS := St.start w
 refine gc_seq fun K1 hK1 => gc_region (gl_box hS rfl rfl rfl rfl rfl fun g2 w2 hS => ?_)
 refine gl_box hS rfl rfl rfl rfl rfl fun g3 w3 hS => ?_
 refine gl_alloc el27 hS rfl rfl rfl rfl fun g4 w4 hS => ?_
 refine Zp rfl (gl_nil (hK1 _ _ (gc_seq fun K2 hK2 => gc_region (Zg 0 Tryz.underlying81 el81 hS rfl (gl_callf rfl rfl rfl rfl Tryz.func61 rfl rfl rfl (fFieldsW_calls L _ hL) ?_)))))
 rintro _ w12 ⟨rfl, hb12⟩
 refine ⟨_, rfl, ?_⟩
 have hS := hS.grown hb12
 refine Zp rfl (gl_nil (hK2 _ _ (gc_seq fun K3 hK3 => gc_seq fun K4 hK4 => gc_region (Zp rfl (Zp rfl (gl_nil (hK4 _ _ (gc_cond rfl rfl (fun c14 => ?_) (fun c14 => ?_)))))))))
 ·simp only [NN, reduceCtorEq] at c14
  refine gc_seq fun K5 hK5 => gc_region (gl_op rfl rfl rfl (op_buildG rfl plan27 rfl rfl) ?_)
  refine Zp rfl (gl_storeM 2 hS el27 rfl rfl rfl rfl rfl rfl rfl rfl rfl fun w_146 hS => ?_)
  refine Zp rfl (gl_nil (hK5 _ _ (gc_ret ?_)))
  simp only [XR]
  refine gk_res2 rfl (⟨_, rfl, run_loadVarB 2 Tryz.underlying27 rfl el27 hS rfl rfl rfl⟩) (rfl) ?_
  refine ⟨?_, hS.below⟩
  unfold outV
  rw [if_pos c14]
  rfl
 simp only [NN, reduceCtorEq] at c14
 obtain ⟨hk1, hk2, hfo⟩ := fv_zero c14
 have hout := fld_out hfo
 refine gc_skip (hK3 _ _ (gc_seq fun K6 hK6 => gc_region (Zg 1 Tryz.underlying27 el27 hS rfl (gl_callf rfl rfl rfl rfl Tryz.func29 rfl rfl rfl (fSize_calls s _ hs) ?_))))
 rintro _ w19 ⟨rfl, hb19⟩
 refine ⟨_, rfl, ?_⟩
 have hS := hS.grown hb19
 refine Zp rfl (Zp rfl (Zp rfl (Zp rfl (Zp rfl (gl_nil (hK6 _ _ (gc_seq fun K7 hK7 => gc_seq fun K8 hK8 => gc_region (Zp rfl (Zp rfl (gl_nil (hK8 _ _ (gc_cond rfl rfl (fun c23 => ?_) (fun c23 => ?_)))))))))))))
 ·simp only [NN, reduceCtorEq] at c23
  refine gc_seq fun K9 hK9 => gc_region (gl_op rfl rfl rfl (op_buildG rfl plan27 rfl rfl) ?_)
  refine Zp rfl (gl_storeM 2 hS el27 rfl rfl rfl rfl rfl rfl rfl rfl rfl fun w_150 hS => ?_)
  refine Zp rfl (gl_nil (hK9 _ _ (gc_ret ?_)))
  simp only [XR]
  refine gk_res2 rfl (⟨_, rfl, run_loadVarB 2 Tryz.underlying27 rfl el27 hS rfl rfl rfl⟩) (rfl) ?_
  refine ⟨?_, hS.below⟩
  have hb := sizeV_bad c23
  unfold outV
  rw [if_neg (by rw [c14]; simp), if_pos hb.1, hb.2]
  rfl
 simp only [NN, reduceCtorEq] at c23
 have hsz := sizeV_ok c23
 have hgs := sz_good hsz.1
 rw [hsz.2]
 refine gc_skip (hK7 _ _ (gc_seq fun K10 hK10 => gc_region (Zg 1 Tryz.underlying27 el27 hS rfl (gl_alloc el27 hS rfl rfl rfl rfl fun g8 w8 hS => ?_))))
 refine gl_storeM 3 hS el27 rfl rfl rfl rfl rfl rfl rfl rfl rfl fun w_152 hS => ?_
 refine gl_nil (hK10 _ _ (gc_cut (fun a' w' => Fr 102 a' [(4, .pointer (some ⟨g4, 0, none⟩)), (8, .pointer (some ⟨g8, 0, none⟩))] ∧ (¬ (winV L.k ∧ (s.h + 2 * L.ph - L.kh < 0 ∨ s.w + 2 * L.pw - L.kw < 0))) ∧ (¬ (L.k = 6 ∧ (s.c * s.h * s.w) % 2 = 1)) ∧ St w.heap.size w w' [.blk g2 81 (rlC L), .blk g3 27 (shC s), .blk g4 27 (shC ⟨0, 0, 0⟩), .blk g8 27 (shC (outS L s))]) ?_ ?_))
 ·refine gc_seq fun K11 hK11 => gc_region (Zf 0 Tryz.underlying81 rfl el3 (Zb 0 hS rfl (gl_nil (hK11 _ _ (gc_block (gc_seq fun K12 hK12 => gc_region (Zp rfl (Zp rfl (gl_nil (hK12 _ _ (gc_cond rfl rfl (fun c29 => ?_) (fun c29 => ?_))))))))))))
  ·simp only [NN, reduceCtorEq] at c29
   refine gc_region (Zf 1 Tryz.underlying81 rfl el3 (Zb 0 hS rfl (gl_op rfl rfl rfl (op_buildG rfl plan27 rfl rfl) ?_)))
   refine gl_storeM 3 hS el27 rfl rfl rfl rfl rfl rfl rfl rfl rfl fun w_155 hS => ?_
   refine gl_nil ?_
   intro a' ha
   refine ⟨ha.sub ⟨rfl, rfl, trivial⟩, fun h => absurd h.1 (by unfold winV; omega), fun h => absurd h.1 (by omega), ?_⟩
   rw [show outS L s = ⟨L.out, 1, 1⟩ by unfold outS; rw [if_pos (by omega)]]
   exact hS
  simp only [NN, reduceCtorEq] at c29
  refine gc_seq fun K13 hK13 => gc_region (Zp rfl (Zp rfl (gl_nil (hK13 _ _ (gc_cond rfl rfl (fun c34 => ?_) (fun c34 => ?_))))))
  ·simp only [NN, reduceCtorEq] at c34
   refine gc_seq fun K14 hK14 => gc_seq fun K15 hK15 => gc_region (Zp rfl (gl_op rfl rfl rfl (op_rem hT rfl (by omega)) ?_))
   refine Zp rfl (gl_nil (hK15 _ _ (gc_cond rfl rfl (fun c38 => ?_) (fun c38 => ?_))))
   ·simp only [NN, reduceCtorEq] at c38
    refine gc_seq fun K16 hK16 => gc_region (gl_op rfl rfl rfl (op_buildG rfl plan27 rfl rfl) ?_)
    refine gl_storeM 2 hS el27 rfl rfl rfl rfl rfl rfl rfl rfl rfl fun w_158 hS => ?_
    refine Zp rfl (gl_nil (hK16 _ _ (gc_ret ?_)))
    simp only [XR]
    refine gk_res2 rfl (⟨_, rfl, run_loadVarB 2 Tryz.underlying27 rfl el27 hS rfl rfl rfl⟩) (rfl) ?_
    refine ⟨?_, hS.below⟩
    unfold outV
    rw [if_neg (by rw [c14]; simp), if_neg hsz.1, if_neg (fun h => absurd h.1 (by unfold winV; omega)), if_pos ⟨by omega, by omega⟩]
    rfl
   simp only [NN, reduceCtorEq] at c38
   refine gc_skip (hK14 _ _ (gc_region (Zf 1 Tryz.underlying81 rfl el3 (Zb 0 hS rfl (Zi rfl (by omega) ?_)))))
   refine gl_op rfl rfl rfl (op_buildG rfl plan27 rfl rfl) ?_
   refine gl_storeM 3 hS el27 rfl rfl rfl rfl rfl rfl rfl rfl rfl fun w_160 hS => ?_
   refine gl_nil ?_
   intro a' ha
   refine ⟨ha.sub ⟨rfl, rfl, trivial⟩, fun h => absurd h.1 (by unfold winV; omega), fun h => absurd h.2 (by omega), ?_⟩
   rw [show outS L s = ⟨2 * L.out, 1, 1⟩ by unfold outS; rw [if_neg (by omega), if_pos (by omega)]]
   exact hS
  simp only [NN, reduceCtorEq] at c34
  refine gc_seq fun K17 hK17 => gc_seq fun K18 hK18 => gc_region (Zp rfl (Zp rfl (gl_nil (hK18 _ _ (gc_cond rfl rfl (fun c44 => ?_) (fun c44 => ?_))))))
  ·simp only [NN, reduceCtorEq] at c44
   refine gc_skip (hK17 _ _ (gc_cond_t rfl (gc_seq fun K19 hK19 => gc_anyS hS (by kernel_rfl) rfl fun nq18 hK => ?_)))
   have hS := hS.dr nq18
   have hwn := fld_win hfo (show winV L.k by unfold winV; omega)
   refine Yf 0 1 Tryz.underlying27 rfl el3 (by kernel_rfl) (fun _ _ _ _ h => h) hK ?_
   refine Yb 1 1 rfl (by kernel_rfl) (fun _ _ _ _ h => h) hK ?_
   refine Yf 2 6 Tryz.underlying81 rfl el3 (by kernel_rfl) (fun _ _ _ _ h => h) hK ?_
   refine Yb 3 0 rfl (by kernel_rfl) (fun _ _ _ _ h => h) hK ?_
   refine Yi 4 rfl (by omega) (by kernel_rfl) (fun _ _ _ _ h => h) hK ?_
   refine Yi 5 rfl (by omega) (by kernel_rfl) (fun _ _ _ _ h => h) hK ?_
   refine Yf 6 2 Tryz.underlying81 rfl el3 (by kernel_rfl) (fun _ _ _ _ h => h) hK ?_
   refine Yb 7 0 rfl (by kernel_rfl) (fun _ _ _ _ h => h) hK ?_
   refine Yi 8 rfl (by omega) (by kernel_rfl) (fun _ _ _ _ h => h) hK ?_
   refine Yf 9 2 Tryz.underlying27 rfl el3 (by kernel_rfl) (fun _ _ _ _ h => h) hK ?_
   refine Yb 10 1 rfl (by kernel_rfl) (fun _ _ _ _ h => h) hK ?_
   refine Yf 11 7 Tryz.underlying81 rfl el3 (by kernel_rfl) (fun _ _ _ _ h => h) hK ?_
   refine Yb 12 0 rfl (by kernel_rfl) (fun _ _ _ _ h => h) hK ?_
   refine Yi 13 rfl (by omega) (by kernel_rfl) (fun _ _ _ _ h => h) hK ?_
   refine Yi 14 rfl (by omega) (by kernel_rfl) (fun _ _ _ _ h => h) hK ?_
   refine Yf 15 3 Tryz.underlying81 rfl el3 (by kernel_rfl) (fun _ _ _ _ h => h) hK ?_
   refine Yb 16 0 rfl (by kernel_rfl) (fun _ _ _ _ h => h) hK ?_
   refine Yi 17 rfl (by omega) (by kernel_rfl) (fun _ _ _ _ h => h) hK ?_
   refine Yp 18 rfl (by kernel_rfl) (fun _ _ _ _ h => h) hK ?_
   refine Yp 19 rfl (by kernel_rfl) (fun _ _ _ _ h => h) hK ?_
   refine ga_done (by kernel_rfl) ?_
   refine hK19 _ _ (gc_seq fun K20 hK20 => gc_seq fun K21 hK21 => gc_region (Zp rfl (Zp rfl (Zp rfl (gl_split (t := 68) rfl (fun c68 => ?_) (fun c68 => ?_))))))
   ·simp only [NN, reduceCtorEq] at c68
    refine Zs rfl (Zs rfl (Zp rfl (gl_nil (hK21 _ _ (gc_cond_t rfl (gc_seq fun K22 hK22 => gc_region (gl_op rfl rfl rfl (op_buildG rfl plan27 rfl rfl) ?_)))))))
    refine gl_storeM 2 hS el27 rfl rfl rfl rfl rfl rfl rfl rfl rfl fun w_164 hS => ?_
    refine Zp rfl (gl_nil (hK22 _ _ (gc_ret ?_)))
    simp only [XR]
    refine gk_res2 rfl (⟨_, rfl, run_loadVarB 2 Tryz.underlying27 rfl el27 hS rfl rfl rfl⟩) (rfl) ?_
    refine ⟨?_, hS.below⟩
    unfold outV
    rw [if_neg (by rw [c14]; simp), if_neg hsz.1, if_pos ⟨by unfold winV; omega, by omega⟩]
    rfl
   simp only [NN, reduceCtorEq] at c68
   refine Zu rfl (Zp rfl (Zu rfl (Zp rfl (Zp rfl (gl_nil (hK21 _ _ (gc_cond rfl rfl (fun c71 => ?_) (fun c71 => ?_))))))))
   ·simp only [NN, reduceCtorEq] at c71
    refine gc_seq fun K23 hK23 => gc_region (gl_op rfl rfl rfl (op_buildG rfl plan27 rfl rfl) ?_)
    refine gl_storeM 2 hS el27 rfl rfl rfl rfl rfl rfl rfl rfl rfl fun w_164 hS => ?_
    refine Zp rfl (gl_nil (hK23 _ _ (gc_ret ?_)))
    simp only [XR]
    refine gk_res2 rfl (⟨_, rfl, run_loadVarB 2 Tryz.underlying27 rfl el27 hS rfl rfl rfl⟩) (rfl) ?_
    refine ⟨?_, hS.below⟩
    unfold outV
    rw [if_neg (by rw [c14]; simp), if_neg hsz.1, if_pos ⟨by unfold winV; omega, by omega⟩]
    rfl
   simp only [NN, reduceCtorEq] at c71
   refine gc_skip (hK20 _ _ (gc_seq fun K24 hK24 => gc_anyS (hS.blank 3) (by kernel_rfl) rfl fun nq21 hK => ?_))
   have hS := hS.dr nq21
   refine Yf 0 0 Tryz.underlying27 rfl el3 (by kernel_rfl) (fun _ _ _ _ h => h) hK ?_
   refine Yb 1 1 rfl (by kernel_rfl) (fun _ _ _ _ h => h) hK ?_
   refine Yp 2 rfl (by kernel_rfl) (fun _ _ _ _ h => h) hK ?_
   refine Yf 3 4 Tryz.underlying81 rfl el3 (by kernel_rfl) (fun _ _ _ _ h => h) hK ?_
   refine Yb 4 0 rfl (by kernel_rfl) (fun _ _ _ _ h => h) hK ?_
   refine ga_take 5 rfl rfl rfl rfl (by kernel_rfl) (fun _ _ _ _ h => h) hK (fun w1 hS => (by first | exact op_quo hT rfl (by omega) (by omega) | exact op_pure hT rfl | exact op_quoS rfl rfl rfl (by omega) (by omega))) ?_
   have hd78 := div_bd (a := s.h + 2 * L.ph - L.kh) (b := L.sh) (by omega) (by omega)
   refine Yi 6 rfl (by omega) (by kernel_rfl) (fun _ _ _ _ h => h) hK ?_
   refine Yp 7 rfl (by kernel_rfl) (fun _ _ _ _ h => h) hK ?_
   refine Yf 8 5 Tryz.underlying81 rfl el3 (by kernel_rfl) (fun _ _ _ _ h => h) hK ?_
   refine Yb 9 0 rfl (by kernel_rfl) (fun _ _ _ _ h => h) hK ?_
   refine ga_take 10 rfl rfl rfl rfl (by kernel_rfl) (fun _ _ _ _ h => h) hK (fun w1 hS => (by first | exact op_quo hT rfl (by omega) (by omega) | exact op_pure hT rfl | exact op_quoS rfl rfl rfl (by omega) (by omega))) ?_
   have hd83 := div_bd (a := s.w + 2 * L.pw - L.kw) (b := L.sw) (by omega) (by omega)
   refine Yi 11 rfl (by omega) (by kernel_rfl) (fun _ _ _ _ h => h) hK ?_
   refine ga_take 12 rfl rfl rfl rfl (by kernel_rfl) (fun _ _ _ _ h => h) hK (fun w1 hS => op_buildG rfl plan27 rfl rfl) ?_
   refine ga_one 13 (by kernel_rfl) rfl ?_
   refine gl_storeM 3 hS el27 rfl rfl rfl rfl rfl rfl rfl rfl rfl fun w_166 hS => ?_
   refine gl_nil (ga_next ((hS.blank 3).pre 4) fun hK => ?_)
   refine ga_done (by kernel_rfl) ?_
   refine hK24 _ _ (gc_seq fun K25 hK25 => gc_region (Zf 0 Tryz.underlying81 rfl el3 (Zb 0 hS rfl (Zp rfl (gl_nil (hK25 _ _ (gc_cond rfl rfl (fun c88 => ?_) (fun c88 => ?_))))))))
   ·simp only [NN, reduceCtorEq] at c88
    refine gc_region (Zf 1 Tryz.underlying81 rfl el3 (Zb 0 hS rfl (Zf 0 Tryz.underlying27 rfl el3 (gl_store 3 hS el3.cellsOf.1 el3.cellsOf.2 rfl rfl rfl rfl rfl rfl rfl rfl fun w_168 hS => ?_))))
    refine gl_nil ?_
    intro a' ha
    refine ⟨ha.sub ⟨rfl, rfl, trivial⟩, fun h => absurd h.2 (by omega), fun h => absurd h.1 (by omega), ?_⟩
    rw [show outS L s = ⟨L.out, (s.h + 2 * L.ph - L.kh) / L.sh + 1, (s.w + 2 * L.pw - L.kw) / L.sw + 1⟩ by unfold outS; rw [if_neg (by omega), if_neg (by omega), if_pos (show winV L.k by unfold winV; omega), if_pos (by omega)]]
    exact hS
   simp only [NN, reduceCtorEq] at c88
   refine gc_skip ?_
   intro a' ha
   refine ⟨ha.sub ⟨rfl, rfl, trivial⟩, fun h => absurd h.2 (by omega), fun h => absurd h.1 (by omega), ?_⟩
   rw [show outS L s = ⟨s.c, (s.h + 2 * L.ph - L.kh) / L.sh + 1, (s.w + 2 * L.pw - L.kw) / L.sw + 1⟩ by unfold outS; rw [if_neg (by omega), if_neg (by omega), if_pos (show winV L.k by unfold winV; omega), if_neg (by omega)]]
   exact hS
  simp only [NN, reduceCtorEq] at c44
  refine gc_seq fun K26 hK26 => gc_region (Zp rfl (Zp rfl (gl_nil (hK26 _ _ (gc_cond rfl rfl (fun c44 => ?_) (fun c44 => ?_))))))
  ·simp only [NN, reduceCtorEq] at c44
   refine gc_skip (hK17 _ _ (gc_cond_t rfl (gc_seq fun K27 hK27 => gc_anyS hS (by kernel_rfl) rfl fun nq18 hK => ?_)))
   have hS := hS.dr nq18
   have hwn := fld_win hfo (show winV L.k by unfold winV; omega)
   refine Yf 0 1 Tryz.underlying27 rfl el3 (by kernel_rfl) (fun _ _ _ _ h => h) hK ?_
   refine Yb 1 1 rfl (by kernel_rfl) (fun _ _ _ _ h => h) hK ?_
   refine Yf 2 6 Tryz.underlying81 rfl el3 (by kernel_rfl) (fun _ _ _ _ h => h) hK ?_
   refine Yb 3 0 rfl (by kernel_rfl) (fun _ _ _ _ h => h) hK ?_
   refine Yi 4 rfl (by omega) (by kernel_rfl) (fun _ _ _ _ h => h) hK ?_
   refine Yi 5 rfl (by omega) (by kernel_rfl) (fun _ _ _ _ h => h) hK ?_
   refine Yf 6 2 Tryz.underlying81 rfl el3 (by kernel_rfl) (fun _ _ _ _ h => h) hK ?_
   refine Yb 7 0 rfl (by kernel_rfl) (fun _ _ _ _ h => h) hK ?_
   refine Yi 8 rfl (by omega) (by kernel_rfl) (fun _ _ _ _ h => h) hK ?_
   refine Yf 9 2 Tryz.underlying27 rfl el3 (by kernel_rfl) (fun _ _ _ _ h => h) hK ?_
   refine Yb 10 1 rfl (by kernel_rfl) (fun _ _ _ _ h => h) hK ?_
   refine Yf 11 7 Tryz.underlying81 rfl el3 (by kernel_rfl) (fun _ _ _ _ h => h) hK ?_
   refine Yb 12 0 rfl (by kernel_rfl) (fun _ _ _ _ h => h) hK ?_
   refine Yi 13 rfl (by omega) (by kernel_rfl) (fun _ _ _ _ h => h) hK ?_
   refine Yi 14 rfl (by omega) (by kernel_rfl) (fun _ _ _ _ h => h) hK ?_
   refine Yf 15 3 Tryz.underlying81 rfl el3 (by kernel_rfl) (fun _ _ _ _ h => h) hK ?_
   refine Yb 16 0 rfl (by kernel_rfl) (fun _ _ _ _ h => h) hK ?_
   refine Yi 17 rfl (by omega) (by kernel_rfl) (fun _ _ _ _ h => h) hK ?_
   refine Yp 18 rfl (by kernel_rfl) (fun _ _ _ _ h => h) hK ?_
   refine Yp 19 rfl (by kernel_rfl) (fun _ _ _ _ h => h) hK ?_
   refine ga_done (by kernel_rfl) ?_
   refine hK27 _ _ (gc_seq fun K28 hK28 => gc_seq fun K29 hK29 => gc_region (Zp rfl (Zp rfl (Zp rfl (gl_split (t := 68) rfl (fun c68 => ?_) (fun c68 => ?_))))))
   ·simp only [NN, reduceCtorEq] at c68
    refine Zs rfl (Zs rfl (Zp rfl (gl_nil (hK29 _ _ (gc_cond_t rfl (gc_seq fun K30 hK30 => gc_region (gl_op rfl rfl rfl (op_buildG rfl plan27 rfl rfl) ?_)))))))
    refine gl_storeM 2 hS el27 rfl rfl rfl rfl rfl rfl rfl rfl rfl fun w_164 hS => ?_
    refine Zp rfl (gl_nil (hK30 _ _ (gc_ret ?_)))
    simp only [XR]
    refine gk_res2 rfl (⟨_, rfl, run_loadVarB 2 Tryz.underlying27 rfl el27 hS rfl rfl rfl⟩) (rfl) ?_
    refine ⟨?_, hS.below⟩
    unfold outV
    rw [if_neg (by rw [c14]; simp), if_neg hsz.1, if_pos ⟨by unfold winV; omega, by omega⟩]
    rfl
   simp only [NN, reduceCtorEq] at c68
   refine Zu rfl (Zp rfl (Zu rfl (Zp rfl (Zp rfl (gl_nil (hK29 _ _ (gc_cond rfl rfl (fun c71 => ?_) (fun c71 => ?_))))))))
   ·simp only [NN, reduceCtorEq] at c71
    refine gc_seq fun K31 hK31 => gc_region (gl_op rfl rfl rfl (op_buildG rfl plan27 rfl rfl) ?_)
    refine gl_storeM 2 hS el27 rfl rfl rfl rfl rfl rfl rfl rfl rfl fun w_164 hS => ?_
    refine Zp rfl (gl_nil (hK31 _ _ (gc_ret ?_)))
    simp only [XR]
    refine gk_res2 rfl (⟨_, rfl, run_loadVarB 2 Tryz.underlying27 rfl el27 hS rfl rfl rfl⟩) (rfl) ?_
    refine ⟨?_, hS.below⟩
    unfold outV
    rw [if_neg (by rw [c14]; simp), if_neg hsz.1, if_pos ⟨by unfold winV; omega, by omega⟩]
    rfl
   simp only [NN, reduceCtorEq] at c71
   refine gc_skip (hK28 _ _ (gc_seq fun K32 hK32 => gc_anyS (hS.blank 3) (by kernel_rfl) rfl fun nq21 hK => ?_))
   have hS := hS.dr nq21
   refine Yf 0 0 Tryz.underlying27 rfl el3 (by kernel_rfl) (fun _ _ _ _ h => h) hK ?_
   refine Yb 1 1 rfl (by kernel_rfl) (fun _ _ _ _ h => h) hK ?_
   refine Yp 2 rfl (by kernel_rfl) (fun _ _ _ _ h => h) hK ?_
   refine Yf 3 4 Tryz.underlying81 rfl el3 (by kernel_rfl) (fun _ _ _ _ h => h) hK ?_
   refine Yb 4 0 rfl (by kernel_rfl) (fun _ _ _ _ h => h) hK ?_
   refine ga_take 5 rfl rfl rfl rfl (by kernel_rfl) (fun _ _ _ _ h => h) hK (fun w1 hS => (by first | exact op_quo hT rfl (by omega) (by omega) | exact op_pure hT rfl | exact op_quoS rfl rfl rfl (by omega) (by omega))) ?_
   have hd78 := div_bd (a := s.h + 2 * L.ph - L.kh) (b := L.sh) (by omega) (by omega)
   refine Yi 6 rfl (by omega) (by kernel_rfl) (fun _ _ _ _ h => h) hK ?_
   refine Yp 7 rfl (by kernel_rfl) (fun _ _ _ _ h => h) hK ?_
   refine Yf 8 5 Tryz.underlying81 rfl el3 (by kernel_rfl) (fun _ _ _ _ h => h) hK ?_
   refine Yb 9 0 rfl (by kernel_rfl) (fun _ _ _ _ h => h) hK ?_
   refine ga_take 10 rfl rfl rfl rfl (by kernel_rfl) (fun _ _ _ _ h => h) hK (fun w1 hS => (by first | exact op_quo hT rfl (by omega) (by omega) | exact op_pure hT rfl | exact op_quoS rfl rfl rfl (by omega) (by omega))) ?_
   have hd83 := div_bd (a := s.w + 2 * L.pw - L.kw) (b := L.sw) (by omega) (by omega)
   refine Yi 11 rfl (by omega) (by kernel_rfl) (fun _ _ _ _ h => h) hK ?_
   refine ga_take 12 rfl rfl rfl rfl (by kernel_rfl) (fun _ _ _ _ h => h) hK (fun w1 hS => op_buildG rfl plan27 rfl rfl) ?_
   refine ga_one 13 (by kernel_rfl) rfl ?_
   refine gl_storeM 3 hS el27 rfl rfl rfl rfl rfl rfl rfl rfl rfl fun w_166 hS => ?_
   refine gl_nil (ga_next ((hS.blank 3).pre 4) fun hK => ?_)
   refine ga_done (by kernel_rfl) ?_
   refine hK32 _ _ (gc_seq fun K33 hK33 => gc_region (Zf 0 Tryz.underlying81 rfl el3 (Zb 0 hS rfl (Zp rfl (gl_nil (hK33 _ _ (gc_cond rfl rfl (fun c88 => ?_) (fun c88 => ?_))))))))
   ·simp only [NN, reduceCtorEq] at c88
    refine gc_region (Zf 1 Tryz.underlying81 rfl el3 (Zb 0 hS rfl (Zf 0 Tryz.underlying27 rfl el3 (gl_store 3 hS el3.cellsOf.1 el3.cellsOf.2 rfl rfl rfl rfl rfl rfl rfl rfl fun w_168 hS => ?_))))
    refine gl_nil ?_
    intro a' ha
    refine ⟨ha.sub ⟨rfl, rfl, trivial⟩, fun h => absurd h.2 (by omega), fun h => absurd h.1 (by omega), ?_⟩
    rw [show outS L s = ⟨L.out, (s.h + 2 * L.ph - L.kh) / L.sh + 1, (s.w + 2 * L.pw - L.kw) / L.sw + 1⟩ by unfold outS; rw [if_neg (by omega), if_neg (by omega), if_pos (show winV L.k by unfold winV; omega), if_pos (by omega)]]
    exact hS
   simp only [NN, reduceCtorEq] at c88
   refine gc_skip ?_
   intro a' ha
   refine ⟨ha.sub ⟨rfl, rfl, trivial⟩, fun h => absurd h.2 (by omega), fun h => absurd h.1 (by omega), ?_⟩
   rw [show outS L s = ⟨s.c, (s.h + 2 * L.ph - L.kh) / L.sh + 1, (s.w + 2 * L.pw - L.kw) / L.sw + 1⟩ by unfold outS; rw [if_neg (by omega), if_neg (by omega), if_pos (show winV L.k by unfold winV; omega), if_neg (by omega)]]
   exact hS
  simp only [NN, reduceCtorEq] at c44
  refine gc_region (Zp rfl (Zp rfl (gl_nil (hK17 _ _ (gc_cond rfl rfl (fun c44 => ?_) (fun c44 => ?_))))))
  ·simp only [NN, reduceCtorEq] at c44
   refine gc_seq fun K34 hK34 => gc_anyS hS (by kernel_rfl) rfl fun nq18 hK => ?_
   have hS := hS.dr nq18
   have hwn := fld_win hfo (show winV L.k by unfold winV; omega)
   refine Yf 0 1 Tryz.underlying27 rfl el3 (by kernel_rfl) (fun _ _ _ _ h => h) hK ?_
   refine Yb 1 1 rfl (by kernel_rfl) (fun _ _ _ _ h => h) hK ?_
   refine Yf 2 6 Tryz.underlying81 rfl el3 (by kernel_rfl) (fun _ _ _ _ h => h) hK ?_
   refine Yb 3 0 rfl (by kernel_rfl) (fun _ _ _ _ h => h) hK ?_
   refine Yi 4 rfl (by omega) (by kernel_rfl) (fun _ _ _ _ h => h) hK ?_
   refine Yi 5 rfl (by omega) (by kernel_rfl) (fun _ _ _ _ h => h) hK ?_
   refine Yf 6 2 Tryz.underlying81 rfl el3 (by kernel_rfl) (fun _ _ _ _ h => h) hK ?_
   refine Yb 7 0 rfl (by kernel_rfl) (fun _ _ _ _ h => h) hK ?_
   refine Yi 8 rfl (by omega) (by kernel_rfl) (fun _ _ _ _ h => h) hK ?_
   refine Yf 9 2 Tryz.underlying27 rfl el3 (by kernel_rfl) (fun _ _ _ _ h => h) hK ?_
   refine Yb 10 1 rfl (by kernel_rfl) (fun _ _ _ _ h => h) hK ?_
   refine Yf 11 7 Tryz.underlying81 rfl el3 (by kernel_rfl) (fun _ _ _ _ h => h) hK ?_
   refine Yb 12 0 rfl (by kernel_rfl) (fun _ _ _ _ h => h) hK ?_
   refine Yi 13 rfl (by omega) (by kernel_rfl) (fun _ _ _ _ h => h) hK ?_
   refine Yi 14 rfl (by omega) (by kernel_rfl) (fun _ _ _ _ h => h) hK ?_
   refine Yf 15 3 Tryz.underlying81 rfl el3 (by kernel_rfl) (fun _ _ _ _ h => h) hK ?_
   refine Yb 16 0 rfl (by kernel_rfl) (fun _ _ _ _ h => h) hK ?_
   refine Yi 17 rfl (by omega) (by kernel_rfl) (fun _ _ _ _ h => h) hK ?_
   refine Yp 18 rfl (by kernel_rfl) (fun _ _ _ _ h => h) hK ?_
   refine Yp 19 rfl (by kernel_rfl) (fun _ _ _ _ h => h) hK ?_
   refine ga_done (by kernel_rfl) ?_
   refine hK34 _ _ (gc_seq fun K35 hK35 => gc_seq fun K36 hK36 => gc_region (Zp rfl (Zp rfl (Zp rfl (gl_split (t := 68) rfl (fun c68 => ?_) (fun c68 => ?_))))))
   ·simp only [NN, reduceCtorEq] at c68
    refine Zs rfl (Zs rfl (Zp rfl (gl_nil (hK36 _ _ (gc_cond_t rfl (gc_seq fun K37 hK37 => gc_region (gl_op rfl rfl rfl (op_buildG rfl plan27 rfl rfl) ?_)))))))
    refine gl_storeM 2 hS el27 rfl rfl rfl rfl rfl rfl rfl rfl rfl fun w_164 hS => ?_
    refine Zp rfl (gl_nil (hK37 _ _ (gc_ret ?_)))
    simp only [XR]
    refine gk_res2 rfl (⟨_, rfl, run_loadVarB 2 Tryz.underlying27 rfl el27 hS rfl rfl rfl⟩) (rfl) ?_
    refine ⟨?_, hS.below⟩
    unfold outV
    rw [if_neg (by rw [c14]; simp), if_neg hsz.1, if_pos ⟨by unfold winV; omega, by omega⟩]
    rfl
   simp only [NN, reduceCtorEq] at c68
   refine Zu rfl (Zp rfl (Zu rfl (Zp rfl (Zp rfl (gl_nil (hK36 _ _ (gc_cond rfl rfl (fun c71 => ?_) (fun c71 => ?_))))))))
   ·simp only [NN, reduceCtorEq] at c71
    refine gc_seq fun K38 hK38 => gc_region (gl_op rfl rfl rfl (op_buildG rfl plan27 rfl rfl) ?_)
    refine gl_storeM 2 hS el27 rfl rfl rfl rfl rfl rfl rfl rfl rfl fun w_164 hS => ?_
    refine Zp rfl (gl_nil (hK38 _ _ (gc_ret ?_)))
    simp only [XR]
    refine gk_res2 rfl (⟨_, rfl, run_loadVarB 2 Tryz.underlying27 rfl el27 hS rfl rfl rfl⟩) (rfl) ?_
    refine ⟨?_, hS.below⟩
    unfold outV
    rw [if_neg (by rw [c14]; simp), if_neg hsz.1, if_pos ⟨by unfold winV; omega, by omega⟩]
    rfl
   simp only [NN, reduceCtorEq] at c71
   refine gc_skip (hK35 _ _ (gc_seq fun K39 hK39 => gc_anyS (hS.blank 3) (by kernel_rfl) rfl fun nq21 hK => ?_))
   have hS := hS.dr nq21
   refine Yf 0 0 Tryz.underlying27 rfl el3 (by kernel_rfl) (fun _ _ _ _ h => h) hK ?_
   refine Yb 1 1 rfl (by kernel_rfl) (fun _ _ _ _ h => h) hK ?_
   refine Yp 2 rfl (by kernel_rfl) (fun _ _ _ _ h => h) hK ?_
   refine Yf 3 4 Tryz.underlying81 rfl el3 (by kernel_rfl) (fun _ _ _ _ h => h) hK ?_
   refine Yb 4 0 rfl (by kernel_rfl) (fun _ _ _ _ h => h) hK ?_
   refine ga_take 5 rfl rfl rfl rfl (by kernel_rfl) (fun _ _ _ _ h => h) hK (fun w1 hS => (by first | exact op_quo hT rfl (by omega) (by omega) | exact op_pure hT rfl | exact op_quoS rfl rfl rfl (by omega) (by omega))) ?_
   have hd78 := div_bd (a := s.h + 2 * L.ph - L.kh) (b := L.sh) (by omega) (by omega)
   refine Yi 6 rfl (by omega) (by kernel_rfl) (fun _ _ _ _ h => h) hK ?_
   refine Yp 7 rfl (by kernel_rfl) (fun _ _ _ _ h => h) hK ?_
   refine Yf 8 5 Tryz.underlying81 rfl el3 (by kernel_rfl) (fun _ _ _ _ h => h) hK ?_
   refine Yb 9 0 rfl (by kernel_rfl) (fun _ _ _ _ h => h) hK ?_
   refine ga_take 10 rfl rfl rfl rfl (by kernel_rfl) (fun _ _ _ _ h => h) hK (fun w1 hS => (by first | exact op_quo hT rfl (by omega) (by omega) | exact op_pure hT rfl | exact op_quoS rfl rfl rfl (by omega) (by omega))) ?_
   have hd83 := div_bd (a := s.w + 2 * L.pw - L.kw) (b := L.sw) (by omega) (by omega)
   refine Yi 11 rfl (by omega) (by kernel_rfl) (fun _ _ _ _ h => h) hK ?_
   refine ga_take 12 rfl rfl rfl rfl (by kernel_rfl) (fun _ _ _ _ h => h) hK (fun w1 hS => op_buildG rfl plan27 rfl rfl) ?_
   refine ga_one 13 (by kernel_rfl) rfl ?_
   refine gl_storeM 3 hS el27 rfl rfl rfl rfl rfl rfl rfl rfl rfl fun w_166 hS => ?_
   refine gl_nil (ga_next ((hS.blank 3).pre 4) fun hK => ?_)
   refine ga_done (by kernel_rfl) ?_
   refine hK39 _ _ (gc_seq fun K40 hK40 => gc_region (Zf 0 Tryz.underlying81 rfl el3 (Zb 0 hS rfl (Zp rfl (gl_nil (hK40 _ _ (gc_cond rfl rfl (fun c88 => ?_) (fun c88 => ?_))))))))
   ·simp only [NN, reduceCtorEq] at c88
    refine gc_region (Zf 1 Tryz.underlying81 rfl el3 (Zb 0 hS rfl (Zf 0 Tryz.underlying27 rfl el3 (gl_store 3 hS el3.cellsOf.1 el3.cellsOf.2 rfl rfl rfl rfl rfl rfl rfl rfl fun w_168 hS => ?_))))
    refine gl_nil ?_
    intro a' ha
    refine ⟨ha.sub ⟨rfl, rfl, trivial⟩, fun h => absurd h.2 (by omega), fun h => absurd h.1 (by omega), ?_⟩
    rw [show outS L s = ⟨L.out, (s.h + 2 * L.ph - L.kh) / L.sh + 1, (s.w + 2 * L.pw - L.kw) / L.sw + 1⟩ by unfold outS; rw [if_neg (by omega), if_neg (by omega), if_pos (show winV L.k by unfold winV; omega), if_pos (by omega)]]
    exact hS
   simp only [NN, reduceCtorEq] at c88
   refine gc_skip ?_
   intro a' ha
   refine ⟨ha.sub ⟨rfl, rfl, trivial⟩, fun h => absurd h.2 (by omega), fun h => absurd h.1 (by omega), ?_⟩
   rw [show outS L s = ⟨s.c, (s.h + 2 * L.ph - L.kh) / L.sh + 1, (s.w + 2 * L.pw - L.kw) / L.sw + 1⟩ by unfold outS; rw [if_neg (by omega), if_neg (by omega), if_pos (show winV L.k by unfold winV; omega), if_neg (by omega)]]
   exact hS
  simp only [NN, reduceCtorEq] at c44
  refine gc_skip ?_
  intro a' ha
  refine ⟨ha.sub ⟨rfl, rfl, trivial⟩, fun h => absurd h.1 (by unfold winV; omega), fun h => absurd h.1 (by omega), ?_⟩
  rw [show outS L s = s by unfold outS; rw [if_neg (by omega), if_neg (by omega), if_neg (show ¬ winV L.k by unfold winV; omega)]]
  exact hS
 rintro a' w2 ⟨hF, hnw, hn6, hS⟩
 refine gc_of hF ?_
 clear hF
 have hso := outS_ok hs hgs hfo
 refine gc_seq fun K41 hK41 => gc_region (Zg 3 Tryz.underlying27 el27 hS rfl (gl_callf rfl rfl rfl rfl Tryz.func29 rfl rfl rfl (fSize_calls (outS L s) _ hso) ?_))
 rintro _ w94 ⟨rfl, hb94⟩
 refine ⟨_, rfl, ?_⟩
 have hS := hS.grown hb94
 refine Zp rfl (Zp rfl (Zp rfl (Zp rfl (gl_nil (hK41 _ _ (gc_seq fun K42 hK42 => gc_seq fun K43 hK43 => gc_region (Zp rfl (Zp rfl (gl_nil (hK43 _ _ (gc_cond rfl rfl (fun c98 => ?_) (fun c98 => ?_))))))))))))
 ·simp only [NN, reduceCtorEq] at c98
  refine gc_seq fun K44 hK44 => gc_region (gl_op rfl rfl rfl (op_buildG rfl plan27 rfl rfl) ?_)
  refine Zp rfl (gl_storeM 2 hS el27 rfl rfl rfl rfl rfl rfl rfl rfl rfl fun w_173 hS => ?_)
  refine Zp rfl (gl_nil (hK44 _ _ (gc_ret ?_)))
  simp only [XR]
  refine gk_res2 rfl (⟨_, rfl, run_loadVarB 2 Tryz.underlying27 rfl el27 hS rfl rfl rfl⟩) (rfl) ?_
  refine ⟨?_, hS.below⟩
  have hb := sizeV_bad c98
  unfold outV
  rw [if_neg (by rw [c14]; simp), if_neg hsz.1, if_neg hnw, if_neg hn6, if_pos hb.1, hb.2]
  rfl
 simp only [NN, reduceCtorEq] at c98
 refine gc_skip (hK42 _ _ (gc_seq fun K45 hK45 => gc_region (Zg 3 Tryz.underlying27 el27 hS rfl (gl_storeM 2 hS el27 rfl rfl rfl rfl rfl rfl rfl rfl rfl fun w_175 hS => ?_))))
 refine Zp rfl (gl_nil (hK45 _ _ (gc_ret (gk_res2 rfl (⟨_, rfl, run_loadVarB 2 Tryz.underlying27 rfl el27 hS rfl rfl rfl⟩) (rfl) ?_))))
 refine ⟨?_, hS.below⟩
 have hb := sizeV_ok c98
 unfold outV
 rw [if_neg (by rw [c14]; simp), if_neg hsz.1, if_neg hnw, if_neg hn6, if_neg hb.1]
 rfl
set_option maxRecDepth 100000 in
theorem fListsW_calls (L : Ly) (s : Sh) (w : World) (hL : L.ok) (hs : s.ok) : Calls Tryz.prog 58 ⟨[.agg ⟨rlC L⟩, .agg ⟨shC s⟩]⟩ w fun e w' => e = .returned (.tuple #[.agg ⟨l4C (listsV L s).1⟩, .int .i64 (listsV L s).2]) ∧ Below w.heap.size w w' := by
 refine gc_enter (N := 70) Tryz.func58 rfl rfl rfl [(0, _), (1, _)] rfl ?_
 have hS := St.start w
 refine gc_seq fun K1 hK1 => gc_region (gl_box hS rfl rfl rfl rfl rfl fun g2 w2 hS => ?_)
 refine gl_box hS rfl rfl rfl rfl rfl fun g3 w3 hS => ?_
 refine gl_alloc el122 hS rfl rfl rfl rfl fun g4 w4 hS => ?_
 refine Zp rfl (gl_nil (hK1 _ _ (gc_seq fun K2 hK2 => gc_region (Zg 0 Tryz.underlying81 el81 hS rfl (Zg 1 Tryz.underlying27 el27 hS rfl (gl_callf rfl rfl rfl rfl Tryz.func33 rfl rfl rfl (fOutW_calls L s _ hL hs) ?_))))))
 rintro _ w13 ⟨rfl, hb13⟩
 refine ⟨_, rfl, ?_⟩
 have hS := hS.grown hb13
 refine Zp rfl (Zp rfl (Zp rfl (gl_alloc el27 hS rfl rfl rfl rfl fun g6 w6 hS => ?_)))
 refine gl_storeM 3 hS el27 rfl rfl rfl rfl rfl rfl rfl rfl rfl fun w_180 hS => ?_
 refine Zp rfl (gl_nil (hK2 _ _ (gc_seq fun K3 hK3 => gc_seq fun K4 hK4 => gc_region (Zp rfl (Zp rfl (gl_nil (hK4 _ _ (gc_cond rfl rfl (fun c17 => ?_) (fun c17 => ?_)))))))))
 ·simp only [NN, reduceCtorEq] at c17
  refine gc_seq fun K5 hK5 => gc_region (gl_op rfl rfl rfl (op_buildG rfl plan122 rfl rfl) ?_)
  refine Zp rfl (gl_storeM 2 hS el122 rfl rfl rfl rfl rfl rfl rfl rfl rfl fun w_182 hS => ?_)
  refine Zp rfl (gl_nil (hK5 _ _ (gc_ret ?_)))
  simp only [XR]
  refine gk_res2 rfl (⟨_, rfl, run_loadVarB 2 Tryz.underlying122 rfl el122 hS rfl rfl rfl⟩) (rfl) ?_
  refine ⟨?_, hS.below⟩
  unfold listsV
  rw [if_pos c17]
  rfl
 simp only [NN, reduceCtorEq] at c17
 obtain ⟨hf, hsz, _⟩ := outV_ok c17
 obtain ⟨_, _, hfo⟩ := fv_zero hf
 have hgs := sz_good hsz
 have hout := fld_out hfo
 have hl0 : listsV L s = (lensV L s, 0) := by unfold listsV; rw [if_neg (by simpa using c17)]
 refine gc_skip (hK3 _ _ (gc_seq fun K6 hK6 => gc_region (Zg 1 Tryz.underlying27 el27 hS rfl (gl_callf rfl rfl rfl rfl Tryz.func29 rfl rfl rfl (fSize_calls s _ hs) ?_))))
 rintro _ w22 ⟨rfl, hb22⟩
 refine ⟨_, rfl, ?_⟩
 have hS := hS.grown hb22
 refine Zp rfl (Zp rfl (gl_spell 23 (v := .int .i64 (s.c * s.h * s.w)) rfl (by show Value.int .i64 (sizeV s).1 = _; unfold sizeV; rw [if_neg hsz]) ?_))
 refine Zp rfl (Zp rfl (Zp rfl (gl_nil (hK6 _ _ (gc_seq fun K7 hK7 => gc_seq fun K8 hK8 => gc_region (Zf 0 Tryz.underlying81 rfl el3 (Zb 0 hS rfl (gl_nil (hK8 _ _ (gc_block (gc_seq fun K9 hK9 => gc_region (Zp rfl (Zp rfl (gl_nil (hK9 _ _ (gc_cond rfl rfl (fun c27 => ?_) (fun c27 => ?_)))))))))))))))))
 ·simp only [NN, reduceCtorEq] at c27
  have hm1 := mul_bd0 (a := L.out) (b := s.c * s.h * s.w) (A := 256) (B := 256) (by omega) (by omega) (by omega) (by omega)
  refine gc_seq fun K10 hK10 => gc_region (Zf 1 Tryz.underlying81 rfl el3 (Zb 0 hS rfl (Zp rfl (Zi rfl (by omega) ?_))))
  refine Zf 1 Tryz.underlying81 rfl el3 (Zb 0 hS rfl (gl_op rfl rfl rfl (op_buildG rfl plan122 rfl rfl) ?_))
  refine gl_storeM 2 hS el122 rfl rfl rfl rfl rfl rfl rfl rfl rfl fun w_187 hS => ?_
  refine Zp rfl (gl_nil (hK10 _ _ (gc_ret ?_)))
  simp only [XR]
  refine gk_res2 rfl (⟨_, rfl, run_loadVarB 2 Tryz.underlying122 rfl el122 hS rfl rfl rfl⟩) (rfl) ?_
  refine ⟨?_, hS.below⟩
  rw [hl0]
  rw [show lensV L s = (L.out * (s.c * s.h * s.w), L.out, 0, 0) by unfold lensV; rw [if_pos (by omega)]]; rfl
 simp only [NN, reduceCtorEq] at c27
 refine gc_seq fun K11 hK11 => gc_region (Zp rfl (Zp rfl (gl_nil (hK11 _ _ (gc_cond rfl rfl (fun c36 => ?_) (fun c36 => ?_))))))
 ·simp only [NN, reduceCtorEq] at c36
  have hwn := fld_win hfo (.inl c36)
  have hm1 := mul_bd0 (a := L.out) (b := s.c) (A := 256) (B := 256) (by omega) (by omega) (by omega) (by omega)
  have hm2 := mul_bd0 (a := L.out * s.c) (b := L.kh) (A := 65536) (B := 16) (by omega) (by omega) (by omega) (by omega)
  have hm3 := mul_bd0 (a := L.out * s.c * L.kh) (b := L.kw) (A := 1048576) (B := 16) (by omega) (by omega) (by omega) (by omega)
  refine gc_seq fun K12 hK12 => gc_region (Zf 1 Tryz.underlying81 rfl el3 (Zb 0 hS rfl (Zf 0 Tryz.underlying27 rfl el3 (Zb 1 hS rfl (Zi rfl (by omega) ?_)))))
  refine Zf 2 Tryz.underlying81 rfl el3 (Zb 0 hS rfl (Zi rfl (by omega) ?_))
  refine Zf 3 Tryz.underlying81 rfl el3 (Zb 0 hS rfl (Zi rfl (by omega) ?_))
  refine Zf 1 Tryz.underlying81 rfl el3 (Zb 0 hS rfl (gl_op rfl rfl rfl (op_buildG rfl plan122 rfl rfl) ?_))
  refine gl_storeM 2 hS el122 rfl rfl rfl rfl rfl rfl rfl rfl rfl fun w_189 hS => ?_
  refine Zp rfl (gl_nil (hK12 _ _ (gc_ret ?_)))
  simp only [XR]
  refine gk_res2 rfl (⟨_, rfl, run_loadVarB 2 Tryz.underlying122 rfl el122 hS rfl rfl rfl⟩) (rfl) ?_
  refine ⟨?_, hS.below⟩
  rw [hl0]
  rw [show lensV L s = (L.out * s.c * L.kh * L.kw, L.out, 0, 0) by unfold lensV; rw [if_neg (by omega), if_pos (by omega)]]; rfl
 simp only [NN, reduceCtorEq] at c36
 refine gc_seq fun K13 hK13 => gc_region (Zp rfl (Zp rfl (gl_nil (hK13 _ _ (gc_cond rfl rfl (fun c52 => ?_) (fun c52 => ?_))))))
 ·simp only [NN, reduceCtorEq] at c52
  refine gc_seq fun K14 hK14 => gc_region (Zf 0 Tryz.underlying27 rfl el3 (Zb 1 hS rfl (Zf 0 Tryz.underlying27 rfl el3 (Zb 1 hS rfl (gl_op rfl rfl rfl (op_buildG rfl plan122 rfl rfl) ?_)))))
  refine gl_storeM 2 hS el122 rfl rfl rfl rfl rfl rfl rfl rfl rfl fun w_191 hS => ?_
  refine Zp rfl (gl_nil (hK14 _ _ (gc_ret ?_)))
  simp only [XR]
  refine gk_res2 rfl (⟨_, rfl, run_loadVarB 2 Tryz.underlying122 rfl el122 hS rfl rfl rfl⟩) (rfl) ?_
  refine ⟨?_, hS.below⟩
  rw [hl0]
  rw [show lensV L s = (s.c, s.c, 0, 0) by unfold lensV; rw [if_neg (by omega), if_neg (by omega), if_pos (by omega)]]; rfl
 simp only [NN, reduceCtorEq] at c52
 refine gc_seq fun K15 hK15 => gc_region (Zp rfl (Zp rfl (gl_nil (hK15 _ _ (gc_cond rfl rfl (fun c59 => ?_) (fun c59 => ?_))))))
 ·simp only [NN, reduceCtorEq] at c59
  have hm1 := mul_bd0 (a := L.out) (b := s.c * s.h * s.w) (A := 256) (B := 256) (by omega) (by omega) (by omega) (by omega)
  refine gc_seq fun K16 hK16 => gc_region (Zf 1 Tryz.underlying81 rfl el3 (Zb 0 hS rfl (Zp rfl (Zi rfl (by omega) ?_))))
  refine gl_op rfl rfl rfl (op_quo hT rfl (by omega) (by omega)) ?_
  refine Zf 1 Tryz.underlying81 rfl el3 (Zb 0 hS rfl (gl_op rfl rfl rfl (op_buildG rfl plan122 rfl rfl) ?_))
  refine gl_storeM 2 hS el122 rfl rfl rfl rfl rfl rfl rfl rfl rfl fun w_193 hS => ?_
  refine Zp rfl (gl_nil (hK16 _ _ (gc_ret ?_)))
  simp only [XR]
  refine gk_res2 rfl (⟨_, rfl, run_loadVarB 2 Tryz.underlying122 rfl el122 hS rfl rfl rfl⟩) (rfl) ?_
  refine ⟨?_, hS.below⟩
  rw [hl0]
  rw [show lensV L s = (0, 0, L.out * (s.c * s.h * s.w) / 2, L.out) by unfold lensV; rw [if_neg (by omega), if_neg (by omega), if_neg (by omega), if_pos (by omega)]]; rfl
 simp only [NN, reduceCtorEq] at c59
 refine gc_skip (hK7 _ _ (gc_seq fun K17 hK17 => gc_region (gl_op rfl rfl rfl (op_buildG rfl plan122 rfl rfl) ?_)))
 refine gl_storeM 2 hS el122 rfl rfl rfl rfl rfl rfl rfl rfl rfl fun w_195 hS => ?_
 refine Zp rfl (gl_nil (hK17 _ _ (gc_ret (gk_res2 rfl (⟨_, rfl, run_loadVarB 2 Tryz.underlying122 rfl el122 hS rfl rfl rfl⟩) (rfl) ?_))))
 refine ⟨?_, hS.below⟩
 rw [hl0]
 rw [show lensV L s = (0, 0, 0, 0) by unfold lensV; rw [if_neg (by omega), if_neg (by omega), if_neg (by omega), if_neg (by omega)]]; rfl
end Go.Proofs.YtnomlloaahoceaaGreatDoor
