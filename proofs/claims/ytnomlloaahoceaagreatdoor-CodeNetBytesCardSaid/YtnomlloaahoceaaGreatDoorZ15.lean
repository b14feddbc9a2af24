/- Contracts of functions that CodeNetBytes reaches, and words to say them. No condition. -/
import Derived.Test.YtnomlloaahoceaaGreatDoorZ14
import Derived.Test.YtnomlloaahoceaaGreatDoorZ03
import Derived.Test.YtnomlloaahoceaaGreatDoorZ09
/- What a reader that goes on tells. No condition. -/
namespace Go.Proofs.YtnomlloaahoceaaGreatDoor
open Go.RowKit
set_option linter.unusedVariables false
set_option linter.unusedSimpArgs false
def Lv (l : List UInt8) (s : RS) (V : Ex Px) : Prop := (s.e = 0 → decPropV l = V) ∧ (s.e ≠ 0 → decPropV l = .error (s.e, s.i))
theorem Lv.dead {l : List UInt8} {s : RS} {V W : Ex Px} (h : Lv l s V) (he : s.e ≠ 0) : Lv l s W := ⟨fun h0 => absurd h0 he, h.2⟩
theorem rU_cases (l : List UInt8) (s : RS) (he : s.e = 0) : (∃ v a, rU l s.a = .ok (v, a) ∧ rsU l s = (v, ⟨a, 0, s.i⟩)) ∨ (∃ x, x ≠ 0 ∧ rU l s.a = .error (x, s.a) ∧ (rsU l s).2.e = x ∧ (rsU l s).2.i = s.a) := by
 by_cases h : (readUV l s.a).2.2 = 0
 ·refine .inl ⟨_, _, by unfold rU; rw [if_pos h], ?_⟩
  unfold rsU
  rw [if_neg (fun h0 => h0 he)]
  unfold RS.fl
  rw [if_neg (fun h0 => h0.2 h), he]
 refine .inr ⟨_, h, by unfold rU; rw [if_neg h], ?_⟩
 unfold rsU
 rw [if_neg (fun h0 => h0 he)]
 unfold RS.fl
 rw [if_pos ⟨he, h⟩]
 exact ⟨rfl, rfl⟩
theorem rdGo_bad (l : List UInt8) (at_ : Nat) : ∀ k i v, (rdGo l at_ k i v).2.2 ≠ 0 → (rdGo l at_ k i v).1 = 0 ∧ (rdGo l at_ k i v).2.1 = 0 := by
 intro k
 induction k with
 | zero => intro i v _; exact ⟨rfl, rfl⟩
 | succ k ih =>
  intro i v h
  by_cases hl : l.length ≤ at_ + i
  ·rw [rdGo_short hl]; exact ⟨rfl, rfl⟩
  by_cases hc : (l.getD (at_ + i) 0).toNat < 128
  ·by_cases h0 : (l.getD (at_ + i) 0).toNat = 0 ∧ 0 < i
   ·rw [rdGo_form (by omega) h0.1 h0.2]; exact ⟨rfl, rfl⟩
   rw [rdGo_end (by omega) hc h0] at h; exact absurd rfl h
  rw [rdGo_more (by omega) (by omega)] at h ⊢
  exact ih (i + 1) _ h
theorem readUV_bad {l : List UInt8} {at_ : Int} (h : (readUV l at_).2.2 ≠ 0) : (readUV l at_).1 = 0 ∧ (readUV l at_).2.1 = 0 := by
 unfold readUV at h ⊢
 split
 ·exact ⟨rfl, rfl⟩
 rename_i hn
 rw [if_neg hn] at h
 exact rdGo_bad l _ _ _ _ h
theorem rsU_ok (l : List UInt8) (s : RS) : 0 ≤ (rsU l s).1 ∧ (rsU l s).1 < 9223372036854775808 ∧ ((rsU l s).2.e = 0 → s.e = 0 ∧ 0 ≤ (rsU l s).2.a ∧ (rsU l s).2.a ≤ l.length) ∧ (0 ≤ s.a → 0 ≤ (rsU l s).2.a) := by
 by_cases he : s.e = 0
 ·rcases rU_cases l s he with ⟨v, a, h1, h2⟩ | ⟨x, hx, h1, h2, h3⟩
  ·have := rU_ok h1
   rw [h2]
   exact ⟨this.2.1, this.2.2.1, fun _ => ⟨he, by show 0 ≤ a; omega, this.2.2.2.2⟩, fun _ => by show 0 ≤ a; omega⟩
  have h4 : (readUV l s.a).2.2 ≠ 0 := by
   intro h4
   unfold rU at h1
   rw [if_pos h4] at h1
   cases h1
  have h5 := readUV_bad h4
  unfold rsU at h2 ⊢
  rw [if_neg (fun h0 => h0 he)] at h2 ⊢
  simp only at h2 ⊢
  rw [h5.1, h5.2]
  exact ⟨by omega, by omega, fun h6 => absurd (h2.symm.trans h6) hx, fun _ => Int.le_refl 0⟩
 have : rsU l s = (0, s) := if_pos he
 rw [this]
 exact ⟨Int.le_refl 0, (by show (0 : Int) < _; omega), fun h0 => absurd h0 he, id⟩
theorem rsFs_live (l : List UInt8) : ∀ (n : Nat) (s : RS), (s.e = 0 → 0 ≤ s.a ∧ s.a ≤ l.length) → (rsFs l n s).2.e = 0 → (rsFs l n s).1.length = n ∧ 0 ≤ (rsFs l n s).2.a ∧ (rsFs l n s).2.a ≤ l.length
 | 0, s, h, he => ⟨rfl, h he⟩
 | n + 1, s, h, he => by
  have h0 := (rsFs_ok l (n + 1) s).2.2.2 he
  rw [rsFs_succ (fun h3 => h3 h0)] at he ⊢
  have h1 := (rsFs_ok l n (rsF1 l s).2).2.2.2 he
  have hx : (readFloatV l s.a).2.2 = 0 := by
   have h2 : (s.fl (readFloatV l s.a).2.2 s.a).e = 0 := h1
   by_cases hx : (readFloatV l s.a).2.2 = 0
   ·exact hx
   unfold RS.fl at h2
   rw [if_pos ⟨h0, hx⟩] at h2
   exact absurd h2 hx
  have hr : rF l s.a = .ok ((rsF1 l s).1, (rsF1 l s).2.a) := by unfold rF; rw [if_pos hx]; rfl
  have h2 := rF_ok hr
  have h3 := rsFs_live l n (rsF1 l s).2 (fun _ => ⟨by omega, h2.2.2.1⟩) he
  exact ⟨by simp only [List.length_cons]; omega, h3.2⟩
theorem fl_a (s : RS) (x y : Int) : (s.fl x y).a = s.a := by unfold RS.fl; split <;> rfl
theorem fl_live {s : RS} {x y : Int} (h : (s.fl x y).e = 0) : s.e = 0 := by
 unfold RS.fl at h
 split at h
 ·rename_i h5; exact absurd h h5.2
 exact h
theorem rsT_live (l : List UInt8) (s : RS) : (rsT l s).e = 0 → s.e = 0 := by
 intro h
 by_cases he : s.e = 0
 ·exact he
 unfold rsT at h
 rw [if_pos he] at h
 exact h
end Go.Proofs.YtnomlloaahoceaaGreatDoor

/- Contracts of the document's own numbers, as far as chapter 6 asks for them. No condition. -/
namespace Go.Proofs.YtnomlloaahoceaaGreatDoor
open Go.RowKit
set_option linter.unusedVariables false
set_option linter.unusedSimpArgs false
structure Nm where
 neg : Bool
 A : Option Addr
 n : Nat
 c : Nat
 e : Int
@[reducible] def nmC (x : Nm) : List Value := [.bool x.neg, .slice x.A x.n x.c, .int .i64 x.e]
theorem sign_calls (x : Nm) (w : World) : Calls Tryz.prog 106 ⟨[.agg ⟨nmC x⟩]⟩ w fun e w' => e = .returned (.int .i64 (if x.n = 0 then 0 else if x.neg then -1 else 1)) ∧ Below w.heap.size w w' := by
 refine gc_enter (N := 9) Tryz.func106 rfl rfl rfl [(0, _)] rfl ?_
 have hS := St.start w
 refine gc_seq fun K1 hK1 => gc_region (gl_box hS rfl rfl rfl rfl rfl fun g1 w1 hS => ?_)
 refine Zp rfl (gl_nil (hK1 _ _ (gc_seq fun K2 hK2 => gc_seq fun K3 hK3 => gc_region (Zf 1 Tryz.underlying183 rfl el181 (Zb 0 hS rfl (Zp rfl (Zp rfl (gl_nil (hK3 _ _ (gc_cond rfl rfl (fun c6 => ?_) (fun c6 => ?_)))))))))))
 ·simp only [NN, reduceCtorEq] at c6
  refine gc_seq fun K4 hK4 => gc_region (Zp rfl (gl_nil (hK4 _ _ (gc_ret ?_))))
  simp only [XR]
  refine gk_ret1 rfl rfl ?_
  exact ⟨by rw [if_pos (by omega)], hS.below⟩
 simp only [NN, reduceCtorEq] at c6
 refine gc_skip (hK2 _ _ (gc_seq fun K5 hK5 => gc_seq fun K6 hK6 => gc_region (Zf 0 Tryz.underlying183 rfl el4 (Zb 0 hS rfl (gl_nil (hK6 _ _ (gc_cond rfl rfl (fun c8 => ?_) (fun c8 => ?_))))))))
 ·refine gc_seq fun K7 hK7 => gc_region (Zp rfl (gl_nil (hK7 _ _ (gc_ret ?_))))
  simp only [XR]
  refine gk_ret1 rfl rfl ?_
  exact ⟨by rw [if_neg (by omega), if_pos c8], hS.below⟩
 refine gc_skip (hK5 _ _ (gc_seq fun K8 hK8 => gc_region (Zp rfl (gl_nil (hK8 _ _ (gc_ret (gk_ret1 rfl rfl ?_)))))))
 exact ⟨by rw [if_neg (by omega), if_neg (by rw [c8]; simp)], hS.below⟩
theorem turned_calls (x : Nm) (w : World) : Calls Tryz.prog 117 ⟨[.agg ⟨nmC x⟩]⟩ w fun e w' => e = .returned (.agg ⟨nmC ⟨if x.n = 0 then x.neg else !x.neg, x.A, x.n, x.c, x.e⟩⟩) ∧ Below w.heap.size w w' := by
 obtain ⟨neg, A, n, c, e⟩ := x
 refine gc_enter (N := 12) Tryz.func117 rfl rfl rfl [(0, _)] rfl ?_
 have hS := St.start w
 refine gc_seq fun K1 hK1 => gc_region (gl_box hS rfl rfl rfl rfl rfl fun g1 w1 hS => ?_)
 refine gl_alloc el183 hS rfl rfl rfl rfl fun g2 w2 hS => ?_
 refine gl_nil (hK1 _ _ (gc_seq fun K2 hK2 => gc_seq fun K3 hK3 => gc_region (Zf 1 Tryz.underlying183 rfl el181 (Zb 0 hS rfl (Zp rfl (Zp rfl (gl_nil (hK3 _ _ (gc_cond rfl rfl (fun c6 => ?_) (fun c6 => ?_))))))))))
 ·simp only [NN, reduceCtorEq] at c6
  refine gc_region (Zf 0 Tryz.underlying183 rfl el4 (Zb 0 hS rfl (Zp rfl (Zf 0 Tryz.underlying183 rfl el4 (gl_store 0 hS el4.cellsOf.1 el4.cellsOf.2 rfl rfl rfl rfl rfl rfl rfl rfl fun w_184 hS => ?_)))))
  refine gl_nil (hK2 _ _ (gc_seq fun K4 hK4 => gc_region (Zg 0 Tryz.underlying183 el183 hS rfl (gl_storeM 1 hS el183 rfl rfl rfl rfl rfl rfl rfl rfl rfl fun w_186 hS => ?_))))
  refine gl_nil (hK4 _ _ (gc_ret ?_))
  simp only [XR]
  refine gk_res1 rfl (⟨_, rfl, run_loadVarB 1 Tryz.underlying183 rfl el183 hS rfl rfl rfl⟩) ?_
  refine ⟨?_, hS.below⟩
  rw [if_neg (show ¬ n = 0 by omega)]; rfl
 simp only [NN, reduceCtorEq] at c6
 refine gc_skip (hK2 _ _ (gc_seq fun K5 hK5 => gc_region (Zg 0 Tryz.underlying183 el183 hS rfl (gl_storeM 1 hS el183 rfl rfl rfl rfl rfl rfl rfl rfl rfl fun w_186 hS => ?_))))
 refine gl_nil (hK5 _ _ (gc_ret ?_))
 simp only [XR]
 refine gk_res1 rfl (⟨_, rfl, run_loadVarB 1 Tryz.underlying183 rfl el183 hS rfl rfl rfl⟩) ?_
 refine ⟨?_, hS.below⟩
 rw [if_pos (show n = 0 by omega)]; rfl
theorem level0_calls (x y : Nm) (w : World) (hx : x.n = 0) : Calls Tryz.prog 118 ⟨[.agg ⟨nmC x⟩, .agg ⟨nmC y⟩]⟩ w fun e w' => e = .returned (.tuple #[.slice none 0 0, .slice y.A y.n y.c, .int .i64 y.e]) ∧ Below w.heap.size w w' := by
 obtain ⟨neg, A, n, c, e⟩ := x
 simp only at hx
 subst hx
 refine gc_enter (N := 52) Tryz.func118 rfl rfl rfl [(0, _), (1, _)] rfl ?_
 have hS := St.start w
 refine gc_seq fun K1 hK1 => gc_region (gl_box hS rfl rfl rfl rfl rfl fun g2 w2 hS => ?_)
 refine gl_box hS rfl rfl rfl rfl rfl fun g3 w3 hS => ?_
 refine Zp rfl (Zp rfl (Zp rfl (gl_nil (hK1 _ _ (gc_seq fun K2 hK2 => gc_seq fun K3 hK3 => gc_region (Zf 1 Tryz.underlying183 rfl el181 (Zb 0 hS rfl (Zp rfl (Zp rfl (gl_nil (hK3 _ _ (gc_cond_t rfl (gc_seq fun K4 hK4 => gc_anyS hS (by kernel_rfl) rfl fun nq2 hK => ?_)))))))))))))
 have hS := hS.dr nq2
 refine Yf 0 1 Tryz.underlying183 rfl el181 (by kernel_rfl) (fun _ _ _ _ h => h) hK ?_
 refine Yb 1 1 rfl (by kernel_rfl) (fun _ _ _ _ h => h) hK ?_
 refine Yf 2 2 Tryz.underlying183 rfl el3 (by kernel_rfl) (fun _ _ _ _ h => h) hK ?_
 refine Yb 3 1 rfl (by kernel_rfl) (fun _ _ _ _ h => h) hK ?_
 refine Yp 4 rfl (by kernel_rfl) (fun _ _ _ _ h => h) hK ?_
 refine Yp 5 rfl (by kernel_rfl) (fun _ _ _ _ h => h) hK ?_
 refine Yp 6 rfl (by kernel_rfl) (fun _ _ _ _ h => h) hK ?_
 refine ga_done (by kernel_rfl) ?_
 refine hK4 _ _ (gc_ret ?_)
 simp only [XR]
 refine gk_ret3 rfl rfl rfl rfl ?_
 exact ⟨rfl, hS.below⟩
theorem plus0_calls (x y : Nm) (w : World) (hx : x.n = 0) : Calls Tryz.prog 116 ⟨[.agg ⟨nmC x⟩, .agg ⟨nmC y⟩]⟩ w fun e w' => e = .returned (.agg ⟨nmC y⟩) ∧ Below w.heap.size w w' := by
 refine gc_enter (N := 62) Tryz.func116 rfl rfl rfl [(0, _), (1, _)] rfl ?_
 have hS := St.start w
 refine gc_seq fun K1 hK1 => gc_region (gl_box hS rfl rfl rfl rfl rfl fun g2 w2 hS => ?_)
 refine gl_box hS rfl rfl rfl rfl rfl fun g3 w3 hS => ?_
 refine gl_alloc el183 hS rfl rfl rfl rfl fun g4 w4 hS => ?_
 refine gl_nil (hK1 _ _ (gc_seq fun K2 hK2 => gc_region (Zg 0 Tryz.underlying183 el183 hS rfl (Zg 1 Tryz.underlying183 el183 hS rfl (gl_callf rfl rfl rfl rfl Tryz.func118 rfl rfl rfl (level0_calls x y _ hx) ?_)))))
 rintro _ w12 ⟨rfl, hb12⟩
 refine ⟨_, rfl, ?_⟩
 have hS := hS.grown hb12
 refine Zp rfl (Zp rfl (Zp rfl (Zp rfl (Zp rfl (Zp rfl (Zp rfl (gl_nil (hK2 _ _ (gc_seq fun K3 hK3 => gc_region (Zf 0 Tryz.underlying183 rfl el4 (Zb 0 hS rfl (Zp rfl (gl_op rfl rfl rfl (op_buildG rfl plan183 rfl rfl) ?_)))))))))))))
 refine gl_alloc el183 hS rfl rfl rfl rfl fun g8 w8 hS => ?_
 refine gl_storeM 3 hS el183 rfl rfl rfl rfl rfl rfl rfl rfl rfl fun w_220 hS => ?_
 refine gl_nil (hK3 _ _ (gc_seq fun K4 hK4 => gc_block (gc_seq fun K5 hK5 => gc_region (Zp rfl (Zp rfl (Zp rfl (Zp rfl (gl_nil (hK5 _ _ (gc_cond_t rfl (gc_seq fun K6 hK6 => gc_region (Zg 1 Tryz.underlying183 el183 hS rfl (gl_storeM 2 hS el183 rfl rfl rfl rfl rfl rfl rfl rfl rfl fun w_223 hS => ?_)))))))))))))
 refine gl_nil (hK6 _ _ (gc_ret ?_))
 simp only [XR]
 refine gk_res1 rfl (⟨_, rfl, run_loadVarB 2 Tryz.underlying183 rfl el183 hS rfl rfl rfl⟩) ?_
 exact ⟨rfl, hS.below⟩
theorem minus0_calls (x y : Nm) (w : World) (hx : x.n = 0) : Calls Tryz.prog 115 ⟨[.agg ⟨nmC x⟩, .agg ⟨nmC y⟩]⟩ w fun e w' => e = .returned (.agg ⟨nmC ⟨if y.n = 0 then y.neg else !y.neg, y.A, y.n, y.c, y.e⟩⟩) ∧ Below w.heap.size w w' := by
 refine gc_enter (N := 9) Tryz.func115 rfl rfl rfl [(0, _), (1, _)] rfl ?_
 have hS := St.start w
 refine gc_seq fun K1 hK1 => gc_region (gl_box hS rfl rfl rfl rfl rfl fun g2 w2 hS => ?_)
 refine gl_box hS rfl rfl rfl rfl rfl fun g3 w3 hS => ?_
 refine gl_alloc el183 hS rfl rfl rfl rfl fun g4 w4 hS => ?_
 refine gl_nil (hK1 _ _ (gc_seq fun K2 hK2 => gc_anyS (hS.blank 2) (by kernel_rfl) rfl fun nq1 hK => ?_))
 have hS := hS.dr nq1
 refine ga_take 0 rfl rfl rfl rfl (by kernel_rfl) (fun _ _ _ _ h => h) hK (fun w1 hS => op_loadG 0 Tryz.underlying183 rfl el183 hS rfl rfl rfl rfl rfl) ?_
 refine ga_take 1 rfl rfl rfl rfl (by kernel_rfl) (fun _ _ _ _ h => h) hK (fun w1 hS => op_loadG 1 Tryz.underlying183 rfl el183 hS rfl rfl rfl rfl rfl) ?_
 refine ga_one 2 (by kernel_rfl) rfl ?_
 refine gl_callf rfl rfl rfl rfl Tryz.func117 rfl rfl rfl (turned_calls y _) ?_
 rintro _ w7 ⟨rfl, hb7⟩
 refine ⟨_, rfl, ?_⟩
 have hS := hS.grown hb7
 refine gl_nil (ga_next ((hS.blank 2).pre 3) fun hK => ?_)
 refine ga_one 3 (by kernel_rfl) rfl ?_
 refine gl_callf rfl rfl rfl rfl Tryz.func116 rfl rfl rfl (plus0_calls x ⟨if y.n = 0 then y.neg else !y.neg, y.A, y.n, y.c, y.e⟩ _ hx) ?_
 rintro _ w8 ⟨rfl, hb8⟩
 refine ⟨_, rfl, ?_⟩
 have hS := hS.grown hb8
 refine gl_nil (ga_next ((hS.blank 2).pre 3) fun hK => ?_)
 refine ga_one 4 (by kernel_rfl) rfl ?_
 refine gl_storeM 2 hS el183 rfl rfl rfl rfl rfl rfl rfl rfl rfl fun w_241 hS => ?_
 refine gl_nil (ga_next ((hS.blank 2).pre 3) fun hK => ?_)
 refine ga_done (by kernel_rfl) ?_
 refine hK2 _ _ (gc_ret (gk_res1 rfl (⟨_, rfl, run_loadVarB 2 Tryz.underlying183 rfl el183 hS rfl rfl rfl⟩) ?_))
 exact ⟨rfl, hS.below⟩
theorem cmp0_calls (x y : Nm) (w : World) (hx : x.n = 0) : Calls Tryz.prog 107 ⟨[.agg ⟨nmC x⟩, .agg ⟨nmC y⟩]⟩ w fun e w' => e = .returned (.int .i64 (if y.n = 0 then 0 else if (if y.n = 0 then y.neg else !y.neg) then -1 else 1)) ∧ Below w.heap.size w w' := by
 refine gc_enter (N := 9) Tryz.func107 rfl rfl rfl [(0, _), (1, _)] rfl ?_
 have hS := St.start w
 refine gc_seq fun K1 hK1 => gc_region (gl_box hS rfl rfl rfl rfl rfl fun g2 w2 hS => ?_)
 refine gl_box hS rfl rfl rfl rfl rfl fun g3 w3 hS => ?_
 refine Zp rfl (gl_nil (hK1 _ _ (gc_seq fun K2 hK2 => gc_region (Zg 0 Tryz.underlying183 el183 hS rfl (Zg 1 Tryz.underlying183 el183 hS rfl (gl_callf rfl rfl rfl rfl Tryz.func115 rfl rfl rfl (minus0_calls x y _ hx) ?_))))))
 rintro _ w7 ⟨rfl, hb7⟩
 refine ⟨_, rfl, ?_⟩
 have hS := hS.grown hb7
 refine gl_callf rfl rfl rfl rfl Tryz.func106 rfl rfl rfl (sign_calls ⟨if y.n = 0 then y.neg else !y.neg, y.A, y.n, y.c, y.e⟩ _) ?_
 rintro _ w8 ⟨rfl, hb8⟩
 refine ⟨_, rfl, ?_⟩
 have hS := hS.grown hb8
 refine Zp rfl (gl_nil (hK2 _ _ (gc_ret ?_)))
 simp only [XR]
 refine gk_ret1 rfl rfl ?_
 exact ⟨rfl, hS.below⟩
@[reducible] def w4 (u : Nat) : Value := .int .u32 (u : Nat)
end Go.Proofs.YtnomlloaahoceaaGreatDoor

/- Contracts of the document's own numbers and fields. No condition. -/
namespace Go.Proofs.YtnomlloaahoceaaGreatDoor
open Go.RowKit
set_option linter.unusedVariables false
set_option linter.unusedSimpArgs false
theorem i64w {x : Int} (h : -9223372036854775808 ≤ x ∧ x ≤ 9223372036854775807) : IntKind.i64.wrap x = x := by rw [IntKind.wrap_i64]; omega
theorem u32w (x : Nat) : IntKind.u32.wrap (x : Int) = ((x % 4294967296 : Nat) : Int) := by rw [IntKind.wrap_u32]; omega
theorem u32d (x : Nat) : (x : Int) / 2 ^ 32 = ((x / 4294967296 : Nat) : Int) := by omega
theorem mu64_low52 (a : Nat) (ha : a < 18446744073709551616) : Go.bits .and .u64 (a : Int) 4503599627370495 = ((a % 4503599627370496 : Nat) : Int) := by
 show Go.IntKind.u64.wrap ((BitVec.ofInt 64 (a : Int) &&& BitVec.ofInt 64 4503599627370495).toNat : Int) = _
 have h2 : (BitVec.ofInt 64 4503599627370495).toNat = 2 ^ 52 - 1 := by decide
 rw [BitVec.toNat_and, mofInt_u64 a ha, h2, Nat.and_two_pow_sub_one_eq_mod, IntKind.wrap_u64]
 omega
theorem mu64_or52 (a : Nat) (ha : a < 4503599627370496) : Go.bits .or .u64 (a : Int) 4503599627370496 = ((a + 4503599627370496 : Nat) : Int) := by
 show Go.IntKind.u64.wrap ((BitVec.ofInt 64 (a : Int) ||| BitVec.ofInt 64 4503599627370496).toNat : Int) = _
 have h2 : (BitVec.ofInt 64 4503599627370496).toNat = 2 ^ 52 * 1 := by decide
 have h3 : a ||| 2 ^ 52 * 1 = 2 ^ 52 * 1 + a := by rw [Nat.or_comm, Nat.two_pow_add_eq_or_of_lt (i := 52) (by omega)]
 rw [BitVec.toNat_or, mofInt_u64 a (by omega), h2, h3, IntKind.wrap_u64]
 omega
theorem fNumber_calls (u : Nat) (hu : u < 18446744073709551616) (w : World) : Calls Tryz.prog 104 ⟨[.int .u64 (u : Nat)]⟩ w fun e w' => e = .returned (.bool (nmB u)) ∧ Eqv w w' := by
 refine gc_enter (N := 7) Tryz.func104 rfl rfl rfl [(0, _)] rfl ?_
 refine gc_seq fun K1 hK1 => gc_region (Zp rfl (gl_nil (hK1 _ _ (gc_seq fun K2 hK2 => gc_region (Zp rfl (Zp rfl ?_))))))
 have e1 : (u : Int) / 2 ^ 52 = ((u / 4503599627370496 : Nat) : Int) := by omega
 refine Zp rfl (gl_spell 5 (v := .int .u64 ((u / 4503599627370496 % 2048 : Nat) : Int)) rfl ?_ ?_)
 ·show Value.int .u64 (bits .and .u64 ((u : Int) / 2 ^ 52) 2047) = _
  rw [e1, mu64_and2047 _ (by omega)]
 refine Zp rfl (Zp rfl (gl_nil (hK2 _ _ (gc_ret ?_))))
 simp only [XR]
 refine gk_ret1 rfl rfl ?_
 exact ⟨by unfold nmB; congr 3; rw [Bool.eq_iff_iff]; simp; omega, Eqv.refl _⟩
end Go.Proofs.YtnomlloaahoceaaGreatDoor

/- Contracts of the document's own sizes and slopes. No condition. -/
namespace Go.Proofs.YtnomlloaahoceaaGreatDoor
open Go.RowKit
set_option linter.unusedVariables false
set_option linter.unusedSimpArgs false
theorem fWithin_calls (n lo hi : Int) (w : World) : Calls Tryz.prog 83 ⟨[.int .i64 n, .int .i64 lo, .int .i64 hi]⟩ w fun e w' => e = .returned (.bool (decide (lo ≤ n ∧ n ≤ hi))) ∧ Eqv w w' := by
 refine gc_enter (N := 15) Tryz.func83 rfl rfl rfl [(0, _), (1, _), (2, _)] rfl ?_
 refine gc_seq fun K1 hK1 => gc_region (Zp rfl (gl_nil (hK1 _ _ (gc_seq fun K2 hK2 => gc_region (Zp rfl (Zp rfl (Zp rfl (Zp rfl (gl_split (t := 10) rfl (fun c10 => ?_) (fun c10 => ?_))))))))))
 ·simp only [NN, reduceCtorEq] at c10
  refine Zu rfl (Zp rfl (Zu rfl (Zp rfl (Zu rfl (Zp rfl (Zp rfl (Zp rfl (gl_nil (hK2 _ _ (gc_ret (gk_ret1 rfl rfl ?_)))))))))))
  exact ⟨congrArg (fun b => Ending.returned (Value.bool b)) (decide_eq_decide.2 (by omega)), Eqv.refl _⟩
 simp only [NN, reduceCtorEq] at c10
 refine Zs rfl (Zs rfl (Zs rfl (Zp rfl (Zp rfl (gl_nil (hK2 _ _ (gc_ret (gk_ret1 rfl rfl ?_))))))))
 exact ⟨by rw [decide_eq_false (show ¬ (lo ≤ n ∧ n ≤ hi) by omega)], Eqv.refl _⟩
theorem fWindows_calls (k : Int) (w : World) : Calls Tryz.prog 81 ⟨[.int .i64 k]⟩ w fun e w' => e = .returned (.bool (decide (winV k))) ∧ Eqv w w' := by
 refine gc_enter (N := 13) Tryz.func81 rfl rfl rfl [(0, _)] rfl ?_
 refine gc_seq fun K1 hK1 => gc_region (Zp rfl (gl_nil (hK1 _ _ (gc_seq fun K2 hK2 => gc_region (Zp rfl (Zp rfl (Zp rfl (gl_split (t := 5) rfl (fun c5 => ?_) (fun c5 => ?_)))))))))
 ·simp only [NN, reduceCtorEq] at c5
  refine Zs rfl (Zs rfl (Zp rfl (Zp rfl (Zs rfl (Zs rfl (Zp rfl (Zp rfl (gl_nil (hK2 _ _ (gc_ret (gk_ret1 rfl rfl ?_)))))))))))
  exact ⟨by rw [decide_eq_true (show winV k by unfold winV; omega)], Eqv.refl _⟩
 simp only [NN, reduceCtorEq] at c5
 refine Zu rfl (Zp rfl (Zu rfl (Zp rfl (Zp rfl (Zp rfl (gl_split (t := 9) rfl (fun c9 => ?_) (fun c9 => ?_)))))))
 ·simp only [NN, reduceCtorEq] at c9
  refine Zs rfl (Zs rfl (Zp rfl (Zp rfl (gl_nil (hK2 _ _ (gc_ret (gk_ret1 rfl rfl ?_)))))))
  exact ⟨by rw [decide_eq_true (show winV k by unfold winV; omega)], Eqv.refl _⟩
 simp only [NN, reduceCtorEq] at c9
 refine Zu rfl (Zp rfl (Zu rfl (Zp rfl (Zp rfl (Zp rfl (gl_nil (hK2 _ _ (gc_ret (gk_ret1 rfl rfl ?_)))))))))
 exact ⟨congrArg (fun b => Ending.returned (Value.bool b)) (decide_eq_decide.2 (by unfold winV; omega)), Eqv.refl _⟩
theorem le_div {a b : Int} (hb : 0 < b) : a ≤ 256 / b ↔ a * b ≤ 256 := Int.le_ediv_iff_mul_le hb
theorem sz_bad1 {c h x : Int} (h1 : 1 ≤ c) (h2 : 1 ≤ h) (h3 : 1 ≤ x) (hq : 256 / c < h) : szBad ⟨c, h, x⟩ := by
 have hb : ¬ h * c ≤ 256 := fun hh => by have := (le_div (show 0 < c by omega)).2 hh; omega
 rw [Int.mul_comm] at hb
 have h4 : c * h * 1 ≤ c * h * x := Int.mul_le_mul_of_nonneg_left h3 (Int.mul_nonneg (by omega) (by omega))
 unfold szBad
 dsimp only
 omega
theorem sz_bad2 {c h x : Int} (h1 : 1 ≤ c * h) (hq : 256 / (c * h) < x) : szBad ⟨c, h, x⟩ := by
 have hb : ¬ x * (c * h) ≤ 256 := fun hh => by have := (le_div (show 0 < c * h by omega)).2 hh; omega
 rw [Int.mul_comm] at hb
 unfold szBad
 dsimp only
 omega
theorem sz_fine {c h x : Int} (h1 : 1 ≤ c) (hc : c ≤ 256) (h2 : 1 ≤ h) (h3 : 1 ≤ x) (h4 : 1 ≤ c * h) (hq : x ≤ 256 / (c * h)) : ¬ szBad ⟨c, h, x⟩ ∧ c * h * x ≤ 256 := by
 have hb := (le_div (show 0 < c * h by omega)).1 hq
 rw [Int.mul_comm] at hb
 have h5 : c * h * 1 ≤ c * h * x := Int.mul_le_mul_of_nonneg_left h3 (by omega)
 have h6 : 1 * h ≤ c * h := Int.mul_le_mul_of_nonneg_right h1 (by omega)
 have h7 : 1 * x ≤ c * h * x := Int.mul_le_mul_of_nonneg_right h4 (by omega)
 refine ⟨?_, hb⟩
 unfold szBad
 dsimp only
 omega
theorem fSize_calls (s : Sh) (w : World) (hs : s.ok) : Calls Tryz.prog 29 ⟨[.agg ⟨shC s⟩]⟩ w fun e w' => e = .returned (.tuple #[.int .i64 (sizeV s).1, .int .i64 (sizeV s).2]) ∧ Below w.heap.size w w' := by
 obtain ⟨c, h, x⟩ := s
 have hh := hs.h
 have hx := hs.w
 simp only at hh hx
 show Calls _ _ ⟨[Value.agg ⟨[.int .i64 c, .int .i64 h, .int .i64 x]⟩]⟩ w _
 refine gc_enter (N := 49) Tryz.func29 rfl rfl rfl [(0, _)] rfl ?_
 have hS := St.start w
 refine gc_seq fun K1 hK1 => gc_region (gl_box hS rfl rfl rfl rfl rfl fun g1 w1 hS => ?_)
 refine Zp rfl (Zp rfl (gl_nil (hK1 _ _ (gc_seq fun K2 hK2 => gc_seq fun K3 hK3 => gc_anyS hS (by kernel_rfl) rfl fun nq1 hK => ?_))))
 have hS := hS.dr nq1
 refine Yf 0 0 Tryz.underlying27 rfl el3 (by kernel_rfl) (fun _ _ _ _ h => h) hK ?_
 refine Yb 1 0 rfl (by kernel_rfl) (fun _ _ _ _ h => h) hK ?_
 refine Yp 2 rfl (by kernel_rfl) (fun _ _ _ _ h => h) hK ?_
 refine Yp 3 rfl (by kernel_rfl) (fun _ _ _ _ h => h) hK ?_
 refine ga_split (t := 7) rfl (fun c7 => ?_) (fun c7 => ?_)
 ·simp only [NN, reduceCtorEq] at c7
  refine Ys 4 rfl (by kernel_rfl) (fun _ _ _ _ h => h) hK ?_
  refine Ys 5 rfl (by kernel_rfl) (fun _ _ _ _ h => h) hK ?_
  refine Ys 6 rfl (by kernel_rfl) (fun _ _ _ _ h => h) hK ?_
  refine Yp 7 rfl (by kernel_rfl) (fun _ _ _ _ h => h) hK ?_
  refine Yp 8 rfl (by kernel_rfl) (fun _ _ _ _ h => h) hK ?_
  refine Ys 9 rfl (by kernel_rfl) (fun _ _ _ _ h => h) hK ?_
  refine Ys 10 rfl (by kernel_rfl) (fun _ _ _ _ h => h) hK ?_
  refine Ys 11 rfl (by kernel_rfl) (fun _ _ _ _ h => h) hK ?_
  refine Yp 12 rfl (by kernel_rfl) (fun _ _ _ _ h => h) hK ?_
  refine Yp 13 rfl (by kernel_rfl) (fun _ _ _ _ h => h) hK ?_
  refine Ys 14 rfl (by kernel_rfl) (fun _ _ _ _ h => h) hK ?_
  refine Ys 15 rfl (by kernel_rfl) (fun _ _ _ _ h => h) hK ?_
  refine Ys 16 rfl (by kernel_rfl) (fun _ _ _ _ h => h) hK ?_
  refine Yp 17 rfl (by kernel_rfl) (fun _ _ _ _ h => h) hK ?_
  refine Yp 18 rfl (by kernel_rfl) (fun _ _ _ _ h => h) hK ?_
  refine Ys 19 rfl (by kernel_rfl) (fun _ _ _ _ h => h) hK ?_
  refine Ys 20 rfl (by kernel_rfl) (fun _ _ _ _ h => h) hK ?_
  refine Ys 21 rfl (by kernel_rfl) (fun _ _ _ _ h => h) hK ?_
  refine Ys 22 rfl (by kernel_rfl) (fun _ _ _ _ h => h) hK ?_
  refine Ys 23 rfl (by kernel_rfl) (fun _ _ _ _ h => h) hK ?_
  refine Ys 24 rfl (by kernel_rfl) (fun _ _ _ _ h => h) hK ?_
  refine Yp 25 rfl (by kernel_rfl) (fun _ _ _ _ h => h) hK ?_
  refine Yp 26 rfl (by kernel_rfl) (fun _ _ _ _ h => h) hK ?_
  refine Ys 27 rfl (by kernel_rfl) (fun _ _ _ _ h => h) hK ?_
  refine Ys 28 rfl (by kernel_rfl) (fun _ _ _ _ h => h) hK ?_
  refine Ys 29 rfl (by kernel_rfl) (fun _ _ _ _ h => h) hK ?_
  refine Ys 30 rfl (by kernel_rfl) (fun _ _ _ _ h => h) hK ?_
  refine Ys 31 rfl (by kernel_rfl) (fun _ _ _ _ h => h) hK ?_
  refine Ys 32 rfl (by kernel_rfl) (fun _ _ _ _ h => h) hK ?_
  refine Ys 33 rfl (by kernel_rfl) (fun _ _ _ _ h => h) hK ?_
  refine Ys 34 rfl (by kernel_rfl) (fun _ _ _ _ h => h) hK ?_
  refine Ys 35 rfl (by kernel_rfl) (fun _ _ _ _ h => h) hK ?_
  refine Yp 36 rfl (by kernel_rfl) (fun _ _ _ _ h => h) hK ?_
  refine ga_done (by kernel_rfl) ?_
  refine hK3 _ _ (gc_cond_t rfl (gc_seq fun K4 hK4 => gc_region (Zp rfl (Zp rfl (gl_nil (hK4 _ _ (gc_ret ?_)))))))
  simp only [XR]
  refine gk_ret2 rfl rfl rfl ?_
  refine ⟨?_, hS.below⟩
  unfold sizeV
  rw [if_pos (show szBad ⟨c, h, x⟩ by unfold szBad; dsimp only; omega)]; done
 simp only [NN, reduceCtorEq] at c7
 refine ga_take_at 4 rfl rfl rfl rfl rfl rfl rfl (by kernel_rfl) (fun _ _ _ _ h => h) hK (fun w1 hS => op_fieldB 1 rfl Tryz.underlying27 rfl el3 rfl rfl) ?_
 refine ga_take_at 5 rfl rfl rfl rfl rfl rfl rfl (by kernel_rfl) (fun _ _ _ _ h => h) hK (fun w1 hS => op_loadB 0 hT hS rfl rfl rfl rfl rfl rfl) ?_
 refine ga_take_at 6 rfl rfl rfl rfl rfl rfl rfl (by kernel_rfl) (fun _ _ _ _ h => h) hK (fun w1 hS => op_pure hT rfl) ?_
 refine Yp 7 rfl (by kernel_rfl) (fun _ _ _ _ h => h) hK ?_
 refine Yp 8 rfl (by kernel_rfl) (fun _ _ _ _ h => h) hK ?_
 refine ga_split (t := 12) rfl (fun c12 => ?_) (fun c12 => ?_)
 ·simp only [NN, reduceCtorEq] at c12
  refine Ys 9 rfl (by kernel_rfl) (fun _ _ _ _ h => h) hK ?_
  refine Ys 10 rfl (by kernel_rfl) (fun _ _ _ _ h => h) hK ?_
  refine Ys 11 rfl (by kernel_rfl) (fun _ _ _ _ h => h) hK ?_
  refine Yp 12 rfl (by kernel_rfl) (fun _ _ _ _ h => h) hK ?_
  refine Yp 13 rfl (by kernel_rfl) (fun _ _ _ _ h => h) hK ?_
  refine Ys 14 rfl (by kernel_rfl) (fun _ _ _ _ h => h) hK ?_
  refine Ys 15 rfl (by kernel_rfl) (fun _ _ _ _ h => h) hK ?_
  refine Ys 16 rfl (by kernel_rfl) (fun _ _ _ _ h => h) hK ?_
  refine Yp 17 rfl (by kernel_rfl) (fun _ _ _ _ h => h) hK ?_
  refine Yp 18 rfl (by kernel_rfl) (fun _ _ _ _ h => h) hK ?_
  refine Ys 19 rfl (by kernel_rfl) (fun _ _ _ _ h => h) hK ?_
  refine Ys 20 rfl (by kernel_rfl) (fun _ _ _ _ h => h) hK ?_
  refine Ys 21 rfl (by kernel_rfl) (fun _ _ _ _ h => h) hK ?_
  refine Ys 22 rfl (by kernel_rfl) (fun _ _ _ _ h => h) hK ?_
  refine Ys 23 rfl (by kernel_rfl) (fun _ _ _ _ h => h) hK ?_
  refine Ys 24 rfl (by kernel_rfl) (fun _ _ _ _ h => h) hK ?_
  refine Yp 25 rfl (by kernel_rfl) (fun _ _ _ _ h => h) hK ?_
  refine Yp 26 rfl (by kernel_rfl) (fun _ _ _ _ h => h) hK ?_
  refine Ys 27 rfl (by kernel_rfl) (fun _ _ _ _ h => h) hK ?_
  refine Ys 28 rfl (by kernel_rfl) (fun _ _ _ _ h => h) hK ?_
  refine Ys 29 rfl (by kernel_rfl) (fun _ _ _ _ h => h) hK ?_
  refine Ys 30 rfl (by kernel_rfl) (fun _ _ _ _ h => h) hK ?_
  refine Ys 31 rfl (by kernel_rfl) (fun _ _ _ _ h => h) hK ?_
  refine Ys 32 rfl (by kernel_rfl) (fun _ _ _ _ h => h) hK ?_
  refine Ys 33 rfl (by kernel_rfl) (fun _ _ _ _ h => h) hK ?_
  refine Ys 34 rfl (by kernel_rfl) (fun _ _ _ _ h => h) hK ?_
  refine Ys 35 rfl (by kernel_rfl) (fun _ _ _ _ h => h) hK ?_
  refine Yp 36 rfl (by kernel_rfl) (fun _ _ _ _ h => h) hK ?_
  refine ga_done (by kernel_rfl) ?_
  refine hK3 _ _ (gc_cond_t rfl (gc_seq fun K5 hK5 => gc_region (Zp rfl (Zp rfl (gl_nil (hK5 _ _ (gc_ret ?_)))))))
  simp only [XR]
  refine gk_ret2 rfl rfl rfl ?_
  refine ⟨?_, hS.below⟩
  unfold sizeV
  rw [if_pos (show szBad ⟨c, h, x⟩ by unfold szBad; dsimp only; omega)]; done
 simp only [NN, reduceCtorEq] at c12
 refine ga_take_at 9 rfl rfl rfl rfl rfl rfl rfl (by kernel_rfl) (fun _ _ _ _ h => h) hK (fun w1 hS => op_fieldB 2 rfl Tryz.underlying27 rfl el3 rfl rfl) ?_
 refine ga_take_at 10 rfl rfl rfl rfl rfl rfl rfl (by kernel_rfl) (fun _ _ _ _ h => h) hK (fun w1 hS => op_loadB 0 hT hS rfl rfl rfl rfl rfl rfl) ?_
 refine ga_take_at 11 rfl rfl rfl rfl rfl rfl rfl (by kernel_rfl) (fun _ _ _ _ h => h) hK (fun w1 hS => op_pure hT rfl) ?_
 refine Yp 12 rfl (by kernel_rfl) (fun _ _ _ _ h => h) hK ?_
 refine Yp 13 rfl (by kernel_rfl) (fun _ _ _ _ h => h) hK ?_
 refine ga_split (t := 17) rfl (fun c17 => ?_) (fun c17 => ?_)
 ·simp only [NN, reduceCtorEq] at c17
  refine Ys 14 rfl (by kernel_rfl) (fun _ _ _ _ h => h) hK ?_
  refine Ys 15 rfl (by kernel_rfl) (fun _ _ _ _ h => h) hK ?_
  refine Ys 16 rfl (by kernel_rfl) (fun _ _ _ _ h => h) hK ?_
  refine Yp 17 rfl (by kernel_rfl) (fun _ _ _ _ h => h) hK ?_
  refine Yp 18 rfl (by kernel_rfl) (fun _ _ _ _ h => h) hK ?_
  refine Ys 19 rfl (by kernel_rfl) (fun _ _ _ _ h => h) hK ?_
  refine Ys 20 rfl (by kernel_rfl) (fun _ _ _ _ h => h) hK ?_
  refine Ys 21 rfl (by kernel_rfl) (fun _ _ _ _ h => h) hK ?_
  refine Ys 22 rfl (by kernel_rfl) (fun _ _ _ _ h => h) hK ?_
  refine Ys 23 rfl (by kernel_rfl) (fun _ _ _ _ h => h) hK ?_
  refine Ys 24 rfl (by kernel_rfl) (fun _ _ _ _ h => h) hK ?_
  refine Yp 25 rfl (by kernel_rfl) (fun _ _ _ _ h => h) hK ?_
  refine Yp 26 rfl (by kernel_rfl) (fun _ _ _ _ h => h) hK ?_
  refine Ys 27 rfl (by kernel_rfl) (fun _ _ _ _ h => h) hK ?_
  refine Ys 28 rfl (by kernel_rfl) (fun _ _ _ _ h => h) hK ?_
  refine Ys 29 rfl (by kernel_rfl) (fun _ _ _ _ h => h) hK ?_
  refine Ys 30 rfl (by kernel_rfl) (fun _ _ _ _ h => h) hK ?_
  refine Ys 31 rfl (by kernel_rfl) (fun _ _ _ _ h => h) hK ?_
  refine Ys 32 rfl (by kernel_rfl) (fun _ _ _ _ h => h) hK ?_
  refine Ys 33 rfl (by kernel_rfl) (fun _ _ _ _ h => h) hK ?_
  refine Ys 34 rfl (by kernel_rfl) (fun _ _ _ _ h => h) hK ?_
  refine Ys 35 rfl (by kernel_rfl) (fun _ _ _ _ h => h) hK ?_
  refine Yp 36 rfl (by kernel_rfl) (fun _ _ _ _ h => h) hK ?_
  refine ga_done (by kernel_rfl) ?_
  refine hK3 _ _ (gc_cond_t rfl (gc_seq fun K6 hK6 => gc_region (Zp rfl (Zp rfl (gl_nil (hK6 _ _ (gc_ret ?_)))))))
  simp only [XR]
  refine gk_ret2 rfl rfl rfl ?_
  refine ⟨?_, hS.below⟩
  unfold sizeV
  rw [if_pos (show szBad ⟨c, h, x⟩ by unfold szBad; dsimp only; omega)]; done
 simp only [NN, reduceCtorEq] at c17
 refine ga_take_at 14 rfl rfl rfl rfl rfl rfl rfl (by kernel_rfl) (fun _ _ _ _ h => h) hK (fun w1 hS => op_fieldB 0 rfl Tryz.underlying27 rfl el3 rfl rfl) ?_
 refine ga_take_at 15 rfl rfl rfl rfl rfl rfl rfl (by kernel_rfl) (fun _ _ _ _ h => h) hK (fun w1 hS => op_loadB 0 hT hS rfl rfl rfl rfl rfl rfl) ?_
 refine ga_take_at 16 rfl rfl rfl rfl rfl rfl rfl (by kernel_rfl) (fun _ _ _ _ h => h) hK (fun w1 hS => op_pure hT rfl) ?_
 refine Yp 17 rfl (by kernel_rfl) (fun _ _ _ _ h => h) hK ?_
 refine Yp 18 rfl (by kernel_rfl) (fun _ _ _ _ h => h) hK ?_
 refine ga_split (t := 22) rfl (fun c22 => ?_) (fun c22 => ?_)
 ·simp only [NN, reduceCtorEq] at c22
  refine Ys 19 rfl (by kernel_rfl) (fun _ _ _ _ h => h) hK ?_
  refine Ys 20 rfl (by kernel_rfl) (fun _ _ _ _ h => h) hK ?_
  refine Ys 21 rfl (by kernel_rfl) (fun _ _ _ _ h => h) hK ?_
  refine Ys 22 rfl (by kernel_rfl) (fun _ _ _ _ h => h) hK ?_
  refine Ys 23 rfl (by kernel_rfl) (fun _ _ _ _ h => h) hK ?_
  refine Ys 24 rfl (by kernel_rfl) (fun _ _ _ _ h => h) hK ?_
  refine Yp 25 rfl (by kernel_rfl) (fun _ _ _ _ h => h) hK ?_
  refine Yp 26 rfl (by kernel_rfl) (fun _ _ _ _ h => h) hK ?_
  refine Ys 27 rfl (by kernel_rfl) (fun _ _ _ _ h => h) hK ?_
  refine Ys 28 rfl (by kernel_rfl) (fun _ _ _ _ h => h) hK ?_
  refine Ys 29 rfl (by kernel_rfl) (fun _ _ _ _ h => h) hK ?_
  refine Ys 30 rfl (by kernel_rfl) (fun _ _ _ _ h => h) hK ?_
  refine Ys 31 rfl (by kernel_rfl) (fun _ _ _ _ h => h) hK ?_
  refine Ys 32 rfl (by kernel_rfl) (fun _ _ _ _ h => h) hK ?_
  refine Ys 33 rfl (by kernel_rfl) (fun _ _ _ _ h => h) hK ?_
  refine Ys 34 rfl (by kernel_rfl) (fun _ _ _ _ h => h) hK ?_
  refine Ys 35 rfl (by kernel_rfl) (fun _ _ _ _ h => h) hK ?_
  refine Yp 36 rfl (by kernel_rfl) (fun _ _ _ _ h => h) hK ?_
  refine ga_done (by kernel_rfl) ?_
  refine hK3 _ _ (gc_cond_t rfl (gc_seq fun K7 hK7 => gc_region (Zp rfl (Zp rfl (gl_nil (hK7 _ _ (gc_ret ?_)))))))
  simp only [XR]
  refine gk_ret2 rfl rfl rfl ?_
  refine ⟨?_, hS.below⟩
  unfold sizeV
  rw [if_pos (show szBad ⟨c, h, x⟩ by unfold szBad; dsimp only; omega)]; done
 simp only [NN, reduceCtorEq] at c22
 refine ga_take_at 19 rfl rfl rfl rfl rfl rfl rfl (by kernel_rfl) (fun _ _ _ _ h => h) hK (fun w1 hS => op_fieldB 1 rfl Tryz.underlying27 rfl el3 rfl rfl) ?_
 refine ga_take_at 20 rfl rfl rfl rfl rfl rfl rfl (by kernel_rfl) (fun _ _ _ _ h => h) hK (fun w1 hS => op_loadB 0 hT hS rfl rfl rfl rfl rfl rfl) ?_
 refine ga_take_at 21 rfl rfl rfl rfl rfl rfl rfl (by kernel_rfl) (fun _ _ _ _ h => h) hK (fun w1 hS => op_fieldB 0 rfl Tryz.underlying27 rfl el3 rfl rfl) ?_
 refine ga_take_at 22 rfl rfl rfl rfl rfl rfl rfl (by kernel_rfl) (fun _ _ _ _ h => h) hK (fun w1 hS => op_loadB 0 hT hS rfl rfl rfl rfl rfl rfl) ?_
 refine ga_take_at 23 rfl rfl rfl rfl rfl rfl rfl (by kernel_rfl) (fun _ _ _ _ h => h) hK (fun w1 hS => (by first | exact op_quo hT rfl (by omega) (by omega) | exact op_pure hT rfl | exact op_quoS rfl rfl rfl (by omega) (by omega))) ?_
 refine ga_take_at 24 rfl rfl rfl rfl rfl rfl rfl (by kernel_rfl) (fun _ _ _ _ h => h) hK (fun w1 hS => op_pure hT rfl) ?_
 refine Yp 25 rfl (by kernel_rfl) (fun _ _ _ _ h => h) hK ?_
 refine Yp 26 rfl (by kernel_rfl) (fun _ _ _ _ h => h) hK ?_
 refine ga_split (t := 30) rfl (fun c30 => ?_) (fun c30 => ?_)
 ·simp only [NN, reduceCtorEq] at c30
  refine Ys 27 rfl (by kernel_rfl) (fun _ _ _ _ h => h) hK ?_
  refine Ys 28 rfl (by kernel_rfl) (fun _ _ _ _ h => h) hK ?_
  refine Ys 29 rfl (by kernel_rfl) (fun _ _ _ _ h => h) hK ?_
  refine Ys 30 rfl (by kernel_rfl) (fun _ _ _ _ h => h) hK ?_
  refine Ys 31 rfl (by kernel_rfl) (fun _ _ _ _ h => h) hK ?_
  refine Ys 32 rfl (by kernel_rfl) (fun _ _ _ _ h => h) hK ?_
  refine Ys 33 rfl (by kernel_rfl) (fun _ _ _ _ h => h) hK ?_
  refine Ys 34 rfl (by kernel_rfl) (fun _ _ _ _ h => h) hK ?_
  refine Ys 35 rfl (by kernel_rfl) (fun _ _ _ _ h => h) hK ?_
  refine Yp 36 rfl (by kernel_rfl) (fun _ _ _ _ h => h) hK ?_
  refine ga_done (by kernel_rfl) ?_
  refine hK3 _ _ (gc_cond_t rfl (gc_seq fun K8 hK8 => gc_region (Zp rfl (Zp rfl (gl_nil (hK8 _ _ (gc_ret ?_)))))))
  simp only [XR]
  refine gk_ret2 rfl rfl rfl ?_
  refine ⟨?_, hS.below⟩
  unfold sizeV
  rw [if_pos (sz_bad1 (by omega) (by omega) (by omega) c30)]; done
 simp only [NN, reduceCtorEq] at c30
 have hd1 : h * c ≤ 256 := (le_div (by omega)).1 (by omega)
 rw [Int.mul_comm] at hd1
 have hd2 : 1 ≤ c * h := (mul_bd (a := c) (b := h) (A := 256) (B := 256) (by omega) (by omega) (by omega) (by
  have h1 : 1 * h ≤ c * h := Int.mul_le_mul_of_nonneg_right (by omega) (by omega)
  omega)).1
 refine ga_take_at 27 rfl rfl rfl rfl rfl rfl rfl (by kernel_rfl) (fun _ _ _ _ h => h) hK (fun w1 hS => op_fieldB 2 rfl Tryz.underlying27 rfl el3 rfl rfl) ?_
 refine ga_take_at 28 rfl rfl rfl rfl rfl rfl rfl (by kernel_rfl) (fun _ _ _ _ h => h) hK (fun w1 hS => op_loadB 0 hT hS rfl rfl rfl rfl rfl rfl) ?_
 refine ga_take_at 29 rfl rfl rfl rfl rfl rfl rfl (by kernel_rfl) (fun _ _ _ _ h => h) hK (fun w1 hS => op_fieldB 0 rfl Tryz.underlying27 rfl el3 rfl rfl) ?_
 refine ga_take_at 30 rfl rfl rfl rfl rfl rfl rfl (by kernel_rfl) (fun _ _ _ _ h => h) hK (fun w1 hS => op_loadB 0 hT hS rfl rfl rfl rfl rfl rfl) ?_
 refine ga_take_at 31 rfl rfl rfl rfl rfl rfl rfl (by kernel_rfl) (fun _ _ _ _ h => h) hK (fun w1 hS => op_fieldB 1 rfl Tryz.underlying27 rfl el3 rfl rfl) ?_
 refine ga_take_at 32 rfl rfl rfl rfl rfl rfl rfl (by kernel_rfl) (fun _ _ _ _ h => h) hK (fun w1 hS => op_loadB 0 hT hS rfl rfl rfl rfl rfl rfl) ?_
 refine ga_take_at 33 rfl rfl rfl rfl rfl rfl rfl (by kernel_rfl) (fun _ _ _ _ h => h) hK (fun w1 hS => (by first | exact op_fit hT rfl (by omega) | exact op_pure hT rfl)) ?_
 refine ga_take_at 34 rfl rfl rfl rfl rfl rfl rfl (by kernel_rfl) (fun _ _ _ _ h => h) hK (fun w1 hS => (by first | exact op_quo hT rfl (by omega) (by omega) | exact op_pure hT rfl | exact op_quoS rfl rfl rfl (by omega) (by omega))) ?_
 refine ga_take_at 35 rfl rfl rfl rfl rfl rfl rfl (by kernel_rfl) (fun _ _ _ _ h => h) hK (fun w1 hS => op_pure hT rfl) ?_
 refine Yp 36 rfl (by kernel_rfl) (fun _ _ _ _ h => h) hK ?_
 refine ga_done (by kernel_rfl) ?_
 refine hK3 _ _ (gc_cond rfl rfl (fun c40 => ?_) (fun c40 => ?_))
 ·simp only [NN, reduceCtorEq] at c40
  refine gc_seq fun K9 hK9 => gc_region (Zp rfl (Zp rfl (gl_nil (hK9 _ _ (gc_ret ?_)))))
  simp only [XR]
  refine gk_ret2 rfl rfl rfl ?_
  refine ⟨?_, hS.below⟩
  unfold sizeV
  rw [if_pos (sz_bad2 hd2 (by omega))]; done
 simp only [NN, reduceCtorEq] at c40
 have hfine := sz_fine (c := c) (h := h) (x := x) (by omega) (by omega) (by omega) (by omega) hd2 (by omega)
 have hfb : 1 ≤ c * h * x := by
  have h5 : c * h * 1 ≤ c * h * x := Int.mul_le_mul_of_nonneg_left (by omega) (by omega)
  omega
 refine gc_skip (hK2 _ _ (gc_seq fun K10 hK10 => gc_region (Zf 0 Tryz.underlying27 rfl el3 (Zb 0 hS rfl (Zf 1 Tryz.underlying27 rfl el3 (Zb 0 hS rfl (Zi rfl (by omega) ?_)))))))
 refine Zf 2 Tryz.underlying27 rfl el3 (Zb 0 hS rfl (Zi rfl (by omega) ?_))
 refine Zp rfl (Zp rfl (gl_nil (hK10 _ _ (gc_ret (gk_ret2 rfl rfl rfl ?_)))))
 refine ⟨?_, hS.below⟩
 unfold sizeV
 rw [if_neg hfine.1]; done
@[reducible] def rlC (L : Ly) : List Value := [.int .i64 L.k, .int .i64 L.out, .int .i64 L.kh, .int .i64 L.kw, .int .i64 L.sh, .int .i64 L.sw, .int .i64 L.ph, .int .i64 L.pw, .int .i64 L.fr, .int .u64 (L.a : Nat), svV L.W, svV L.B, svV L.Z, svV L.ZB]
end Go.Proofs.YtnomlloaahoceaaGreatDoor
