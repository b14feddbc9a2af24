/- Contracts of functions that CodeNetBytes reaches, and words to say them. No condition. -/
import Derived.Test.YtnomlloaahoceaaGreatDoorZ15
import Derived.Test.YtnomlloaahoceaaGreatDoorZ03
import Derived.Test.YtnomlloaahoceaaGreatDoorZ13
/- Contracts of the document's own bounds and fields. No condition. -/
namespace Go.Proofs.YtnomlloaahoceaaGreatDoor
open Go.RowKit
set_option linter.unusedVariables false
set_option linter.unusedSimpArgs false
@[reducible] def iv (x : Int) : Value := .int .i64 x
def bwin (a b : Int) (i : Nat) (p q : Int) : List Value := [iv a, iv b, iv (if 1 < i then 1 else 0), iv (if 1 < i then 16 else 0), iv (if 2 < i then 1 else 0), iv (if 2 < i then 16 else 0), iv (if 3 < i then 1 else 0), iv (if 3 < i then 16 else 0), iv (if 4 < i then 1 else 0), iv (if 4 < i then 16 else 0), iv 0, iv p, iv 0, iv q, iv 0, iv 0]
theorem bwin_step (a b : Int) (i : Nat) (h : 1 ≤ i ∧ i ≤ 4) : spliceL (bwin a b i 0 0) (i * 2) [iv 1, iv 16] = bwin a b (i + 1) 0 0 := by
 match i, h with
 | 1, _ => rfl
 | 2, _ => rfl
 | 3, _ => rfl
 | 4, _ => rfl
def bnd0 (k : Int) : List Value :=
 if k = 1 ∨ k = 2 then bwin 1 256 0 0 0 else if k = 6 then bwin 1 128 0 0 0 else if k = 5 then [iv 0, iv 0, iv 0, iv 0, iv 0, iv 0, iv 0, iv 0, iv 0, iv 0, iv 0, iv 0, iv 0, iv 0, iv 0, iv 64] else bwin 0 0 0 0 0
set_option maxRecDepth 100000 in
theorem fBounds_calls (L : Ly) (w : World) (hkh : i64 L.kh) (hkw : i64 L.kw) : Calls Tryz.prog 84 ⟨[.agg ⟨rlC L⟩]⟩ w fun e w' => e = .returned (.agg ⟨bndC L.k L.kh L.kw⟩) ∧ Below w.heap.size w w' := by
 refine gc_enter (N := 41) Tryz.func84 rfl rfl rfl [(0, _)] rfl ?_
 have hS := St.start w
 refine gc_seq fun K1 hK1 => gc_region (gl_box hS rfl rfl rfl rfl rfl fun g1 w1 hS => ?_)
 refine gl_alloc el158 hS rfl rfl rfl rfl fun g2 w2 hS => ?_
 refine gl_nil (hK1 _ _ (gc_seq fun K2 hK2 => gc_region (gl_alloc el158 hS rfl rfl rfl rfl fun g3 w3 hS => ?_)))
 refine gl_nil (hK2 _ _ (gc_cut (fun a w' => Fr 41 a [(1, .pointer (some ⟨g1, 0, none⟩)), (2, .pointer (some ⟨g2, 0, none⟩)), (3, .pointer (some ⟨g3, 0, none⟩))] ∧ St w.heap.size w w' [.blk g1 81 (rlC L), .blk g2 158 (bwin 0 0 0 0 0), .blk g3 158 (bnd0 L.k)]) ?_ ?_))
 ·refine gc_seq fun K3 hK3 => gc_region (Zf 0 Tryz.underlying81 rfl el3 (Zb 0 hS rfl (gl_nil (hK3 _ _ (gc_block (gc_seq fun K4 hK4 => gc_seq fun K5 hK5 => gc_region (Zp rfl (Zp rfl (gl_nil (hK5 _ _ (gc_cond rfl rfl (fun c7 => ?_) (fun c7 => ?_))))))))))))
  ·simp only [NN, reduceCtorEq] at c7
   refine gc_skip (hK4 _ _ (gc_cond_t rfl (gc_region (gl_op rfl rfl rfl (op_buildG rfl plan157 rfl rfl) ?_))))
   refine gl_op rfl rfl rfl (op_ixA (j := 0) rfl Tryz.underlying158 el157 rfl rfl (by decide) (by decide) rfl) ?_
   refine gl_storeM 2 hS el157 rfl rfl rfl rfl rfl rfl rfl rfl rfl fun w_92 hS => ?_
   refine gl_nil ?_
   intro a ha
   refine ⟨ha.sub ⟨rfl, rfl, rfl, trivial⟩, ?_⟩
   unfold bnd0
   rw [if_pos (by omega)]; exact hS
  simp only [NN, reduceCtorEq] at c7
  refine gc_region (Zp rfl (Zp rfl (gl_nil (hK4 _ _ (gc_cond rfl rfl (fun c7 => ?_) (fun c7 => ?_))))))
  ·simp only [NN, reduceCtorEq] at c7
   refine gc_region (gl_op rfl rfl rfl (op_buildG rfl plan157 rfl rfl) ?_)
   refine gl_op rfl rfl rfl (op_ixA (j := 0) rfl Tryz.underlying158 el157 rfl rfl (by decide) (by decide) rfl) ?_
   refine gl_storeM 2 hS el157 rfl rfl rfl rfl rfl rfl rfl rfl rfl fun w_92 hS => ?_
   refine gl_nil ?_
   intro a ha
   refine ⟨ha.sub ⟨rfl, rfl, rfl, trivial⟩, ?_⟩
   unfold bnd0
   rw [if_pos (by omega)]; exact hS
  simp only [NN, reduceCtorEq] at c7
  refine gc_seq fun K6 hK6 => gc_region (Zp rfl (Zp rfl (gl_nil (hK6 _ _ (gc_cond rfl rfl (fun c12 => ?_) (fun c12 => ?_))))))
  ·simp only [NN, reduceCtorEq] at c12
   refine gc_region (gl_op rfl rfl rfl (op_buildG rfl plan157 rfl rfl) ?_)
   refine gl_op rfl rfl rfl (op_ixA (j := 0) rfl Tryz.underlying158 el157 rfl rfl (by decide) (by decide) rfl) ?_
   refine gl_storeM 2 hS el157 rfl rfl rfl rfl rfl rfl rfl rfl rfl fun w_94 hS => ?_
   refine gl_nil ?_
   intro a ha
   refine ⟨ha.sub ⟨rfl, rfl, rfl, trivial⟩, ?_⟩
   unfold bnd0
   rw [if_neg (by omega), if_pos (by omega)]; exact hS
  simp only [NN, reduceCtorEq] at c12
  refine gc_seq fun K7 hK7 => gc_region (Zp rfl (Zp rfl (gl_nil (hK7 _ _ (gc_cond rfl rfl (fun c16 => ?_) (fun c16 => ?_))))))
  ·simp only [NN, reduceCtorEq] at c16
   refine gc_region (gl_op rfl rfl rfl (op_buildG rfl plan157 rfl rfl) ?_)
   refine gl_op rfl rfl rfl (op_ixA (j := 14) rfl Tryz.underlying158 el157 rfl rfl (by decide) (by decide) rfl) ?_
   refine gl_storeM 2 hS el157 rfl rfl rfl rfl rfl rfl rfl rfl rfl fun w_96 hS => ?_
   refine gl_nil ?_
   intro a ha
   refine ⟨ha.sub ⟨rfl, rfl, rfl, trivial⟩, ?_⟩
   unfold bnd0
   rw [if_neg (by omega), if_neg (by omega), if_pos (by omega)]; exact hS
  simp only [NN, reduceCtorEq] at c16
  refine gc_skip ?_
  intro a ha
  refine ⟨ha.sub ⟨rfl, rfl, rfl, trivial⟩, ?_⟩
  unfold bnd0
  rw [if_neg (by omega), if_neg (by omega), if_neg (by omega)]; exact hS
 rintro a w1 ⟨hF, hS⟩
 refine gc_of hF ?_
 clear hF
 refine gc_seq fun K8 hK8 => gc_seq fun K9 hK9 => gc_region (Zf 0 Tryz.underlying81 rfl el3 (Zb 0 hS rfl (gl_callf rfl rfl rfl rfl Tryz.func81 rfl rfl rfl (fWindows_calls L.k _) ?_)))
 rintro _ _ ⟨rfl, n22, rfl⟩
 refine ⟨_, rfl, ?_⟩
 have hS := hS.dr n22
 refine gl_nil (hK9 _ _ (gc_cond rfl rfl (fun c22 => ?_) (fun c22 => ?_)))
 ·simp only [NN, reduceCtorEq] at c22
  obtain ⟨b0, b1, hb0⟩ : ∃ b0 b1, bnd0 L.k = bwin b0 b1 1 0 0 ∧ bndC L.k L.kh L.kw = bwin b0 b1 5 (IntKind.i64.wrap (L.kh - 1)) (IntKind.i64.wrap (L.kw - 1)) := by
   have hw : L.k = 2 ∨ L.k = 4 ∨ L.k = 12 := c22
   rcases hw with h | h | h
   ·exact ⟨1, 256, by rw [h]; rfl, by rw [h]; rfl⟩
   ·exact ⟨0, 0, by rw [h]; rfl, by rw [h]; rfl⟩
   exact ⟨0, 0, by rw [h]; rfl, by rw [h]; rfl⟩
  rw [hb0.1] at hS
  refine gc_seq fun K10 hK10 => gc_seq fun K11 hK11 => gc_region (Zp rfl (gl_nil (hK11 _ _ (gc_block (gc_loop (fun k a w' => ∃ i : Nat, Fr 41 a [(1, .pointer (some ⟨g1, 0, none⟩)), (2, .pointer (some ⟨g2, 0, none⟩)), (3, .pointer (some ⟨g3, 0, none⟩)), (4, .int .i64 (i : Nat))] ∧ (1 ≤ i ∧ i ≤ 5) ∧ k = 6 - i ∧ St w.heap.size w w' [.blk g1 81 (rlC L), .blk g2 158 (bwin 0 0 0 0 0), .blk g3 158 (bwin b0 b1 i 0 0)]) 5 ?_ ?_ ?_)))))
  ·intro a ha; exact ⟨1, ha.sub ⟨rfl, rfl, rfl, rfl, trivial⟩, by omega, by omega, hS⟩
  ·rintro a w ⟨i, _, h1, h2, _⟩; omega
  rintro k a w1 ⟨i, hF, hi, hk, hS⟩
  refine gc_of hF ?_
  clear hF
  refine gc_seq fun K12 hK12 => gc_seq fun K13 hK13 => gc_region (Zp rfl (Zp rfl (gl_nil (hK13 _ _ (gc_cond rfl rfl (fun c24 => ?_) (fun c24 => ?_))))))
  ·simp only [NN, reduceCtorEq] at c24
   refine gc_skip (hK12 _ _ (gc_seq fun K14 hK14 => gc_block (gc_region (Zp rfl (gl_op rfl rfl rfl (op_buildG rfl plan157 rfl rfl) ?_)))))
   refine gl_op rfl rfl rfl (op_ixA (j := i * 2) rfl Tryz.underlying158 el157 rfl rfl (by omega) (by omega) (by rw [Int.toNat_natCast]; omega)) ?_
   refine gl_storeM 2 hS el157 rfl rfl rfl rfl rfl rfl rfl (Nat.ble_eq_true_of_le (by show i * 2 + 2 ≤ 16; omega)) rfl fun w29 hS => ?_
   have hS : St w.heap.size w _ [.blk g1 81 (rlC L), .blk g2 158 (bwin 0 0 0 0 0), .blk g3 158 (spliceL (bwin b0 b1 i 0 0) (i * 2) [iv 1, iv 16])] := hS
   rw [bwin_step b0 b1 i (by omega)] at hS
   refine gl_nil (hK14 _ _ (gc_region (Zp rfl (Zi rfl (by omega) ?_))))
   refine Zp rfl (gl_nil ?_)
   intro a ha
   exact ⟨i + 1, ha.sub ⟨rfl, rfl, rfl, rfl, trivial⟩, by omega, by omega, hS⟩
  simp only [NN, reduceCtorEq] at c24
  have hi5 : i = 5 := by omega
  subst hi5
  refine gc_exit ?_
  refine hK10 _ _ (gc_seq fun K15 hK15 => gc_region (Zf 2 Tryz.underlying81 rfl el3 (Zb 0 hS rfl (Zp rfl (gl_op rfl rfl rfl (op_buildG rfl plan157 rfl rfl) ?_)))))
  refine gl_op rfl rfl rfl (op_ixA (j := 10) rfl Tryz.underlying158 el157 rfl rfl (by decide) (by decide) rfl) ?_
  refine gl_storeM 2 hS el157 rfl rfl rfl rfl rfl rfl rfl rfl rfl fun w_102 hS => ?_
  refine gl_nil (hK15 _ _ (gc_region (Zf 3 Tryz.underlying81 rfl el3 (Zb 0 hS rfl (Zp rfl (gl_op rfl rfl rfl (op_buildG rfl plan157 rfl rfl) ?_))))))
  refine gl_op rfl rfl rfl (op_ixA (j := 12) rfl Tryz.underlying158 el157 rfl rfl (by decide) (by decide) rfl) ?_
  refine gl_storeM 2 hS el157 rfl rfl rfl rfl rfl rfl rfl rfl rfl fun w_103 hS => ?_
  refine gl_nil (hK8 _ _ (gc_seq fun K16 hK16 => gc_region (Zg 2 Tryz.underlying158 el158 hS rfl (gl_storeM 1 hS el158 rfl rfl rfl rfl rfl rfl rfl rfl rfl fun w_105 hS => ?_))))
  refine gl_nil (hK16 _ _ (gc_ret (gk_res1 rfl (⟨_, rfl, run_loadVarB 1 Tryz.underlying158 rfl el158 hS rfl rfl rfl⟩) ?_)))
  refine ⟨?_, hS.below⟩
  rw [hb0.2]; rfl
 simp only [NN, reduceCtorEq] at c22
 obtain ⟨x0, x1, x2, x3, x4, x5, x6, x7, x8, x9, x10, x11, x12, x13, x14, x15, hb0⟩ : ∃ x0 x1 x2 x3 x4 x5 x6 x7 x8 x9 x10 x11 x12 x13 x14 x15 : Int, bnd0 L.k = [iv x0, iv x1, iv x2, iv x3, iv x4, iv x5, iv x6, iv x7, iv x8, iv x9, iv x10, iv x11, iv x12, iv x13, iv x14, iv x15] ∧ bndC L.k L.kh L.kw = [iv x0, iv x1, iv x2, iv x3, iv x4, iv x5, iv x6, iv x7, iv x8, iv x9, iv x10, iv x11, iv x12, iv x13, iv x14, iv x15] := by
  have hw : ¬ (L.k = 2 ∨ L.k = 4 ∨ L.k = 12) := c22
  by_cases h1 : L.k = 1
  ·exact ⟨1, 256, 0, 0, 0, 0, 0, 0, 0, 0, 0, 0, 0, 0, 0, 0,  by unfold bnd0; rw [if_pos (.inl h1)] <;> rfl, by unfold bndC; rw [if_pos h1] <;> rfl⟩
  by_cases h6 : L.k = 6
  ·exact ⟨1, 128, 0, 0, 0, 0, 0, 0, 0, 0, 0, 0, 0, 0, 0, 0,  by unfold bnd0; rw [if_neg (by omega), if_pos h6] <;> rfl, by unfold bndC; rw [if_neg h1, if_pos h6] <;> rfl⟩
  by_cases h5 : L.k = 5
  ·exact ⟨0, 0, 0, 0, 0, 0, 0, 0, 0, 0, 0, 0, 0, 0, 0, 64,  by unfold bnd0; rw [if_neg (by omega), if_neg h6, if_pos h5] <;> rfl, by unfold bndC; rw [if_neg h1, if_neg h6, if_pos h5] <;> rfl⟩
  exact ⟨0, 0, 0, 0, 0, 0, 0, 0, 0, 0, 0, 0, 0, 0, 0, 0, by unfold bnd0; rw [if_neg (by omega), if_neg h6, if_neg h5] <;> rfl, by unfold bndC; rw [if_neg h1, if_neg h6, if_neg h5, if_neg (by omega), if_neg (by omega)] <;> rfl⟩
 rw [hb0.1] at hS
 refine gc_skip (hK8 _ _ (gc_seq fun K17 hK17 => gc_region (Zg 2 Tryz.underlying158 el158 hS rfl (gl_storeM 1 hS el158 rfl rfl rfl rfl rfl rfl rfl rfl rfl fun w_105 hS => ?_))))
 refine gl_nil (hK17 _ _ (gc_ret (gk_res1 rfl (⟨_, rfl, run_loadVarB 1 Tryz.underlying158 rfl el158 hS rfl rfl rfl⟩) ?_)))
 refine ⟨?_, hS.below⟩
 rw [hb0.2]; rfl
end Go.Proofs.YtnomlloaahoceaaGreatDoor

/- The contract of the document's own Fields. No condition. -/
namespace Go.Proofs.YtnomlloaahoceaaGreatDoor
open Go.RowKit
set_option linter.unusedVariables false
set_option linter.unusedSimpArgs false
theorem fbnd_at (k kh kw : Int) (j : Nat) (h : j < 16) : (bndC k kh kw)[j]? = some (.int .i64 ((bndI k kh kw).getD j 0)) := bnd_at k kh kw j h
end Go.Proofs.YtnomlloaahoceaaGreatDoor

/- Contracts of the document's own Out and Lists. No condition. -/
namespace Go.Proofs.YtnomlloaahoceaaGreatDoor
open Go.RowKit
set_option linter.unusedVariables false
set_option linter.unusedSimpArgs false
theorem outS_ok {L : Ly} {s : Sh} (hs : s.ok) (hgs : (1 ≤ s.c ∧ s.c ≤ 256) ∧ (1 ≤ s.h ∧ s.h ≤ 256) ∧ (1 ≤ s.w ∧ s.w ≤ 256) ∧ 1 ≤ s.c * s.h * s.w ∧ s.c * s.h * s.w ≤ 256) (hfo : fldOk L) : (outS L s).ok := by
 have hhc := hs.c
 have hout := fld_out hfo
 have hdiv : ∀ x y : Int, winV L.k → 1 ≤ y → -1000 ≤ x → x ≤ 1000 → -1001 ≤ x / y ∧ x / y ≤ 1000 := fun x y _ h1 h2 h3 => by
  have e1 := Int.ediv_mul_le x (show y ≠ 0 by omega)
  have e2 := Int.lt_ediv_add_one_mul_self x (show (0 : Int) < y by omega)
  constructor
  ·rcases Int.lt_or_le (x / y) (-1001) with h | h
   ·exfalso
    have : (x / y + 1) * y ≤ (x / y + 1) * 1 := Int.mul_le_mul_of_nonpos_left (by omega) (by omega)
    omega
   exact h
  rcases Int.lt_or_le 1000 (x / y) with h | h
  ·exfalso
   have : (x / y) * 1 ≤ (x / y) * y := Int.mul_le_mul_of_nonneg_left (by omega) (by omega)
   omega
  exact h
 unfold outS
 split
 ·exact ⟨by constructor <;> simp only <;> omega, by constructor <;> simp only <;> omega, by constructor <;> simp only <;> omega⟩
 split
 ·exact ⟨by constructor <;> simp only <;> omega, by constructor <;> simp only <;> omega, by constructor <;> simp only <;> omega⟩
 split
 ·rename_i hw
  have hwn := fld_win hfo hw
  have d1 := hdiv (s.h + 2 * L.ph - L.kh) L.sh hw (by omega) (by omega) (by omega)
  have d2 := hdiv (s.w + 2 * L.pw - L.kw) L.sw hw (by omega) (by omega) (by omega)
  refine ⟨?_, by constructor <;> simp only <;> omega, by constructor <;> simp only <;> omega⟩
  simp only
  split
  ·constructor <;> omega
  exact hhc
 exact hs
end Go.Proofs.YtnomlloaahoceaaGreatDoor

/- The contract of the document's own Lists. No condition. -/
namespace Go.Proofs.YtnomlloaahoceaaGreatDoor
open Go.RowKit
set_option linter.unusedVariables false
set_option linter.unusedSimpArgs false
@[reducible] def l4C (x : Int × Int × Int × Int) : List Value := [.int .i64 x.1, .int .i64 x.2.1, .int .i64 x.2.2.1, .int .i64 x.2.2.2]
end Go.Proofs.YtnomlloaahoceaaGreatDoor

/- What a reader that goes on tells, for any target; a network's head; which fields a kind has; complex numbers. No condition. -/
namespace Go.Proofs.YtnomlloaahoceaaGreatDoor
open Go.RowKit
set_option linter.unusedVariables false
set_option linter.unusedSimpArgs false
section
variable {α : Type} {T : Ex α}
def LvG (T : Ex α) (s : RS) (V : Ex α) : Prop := (s.e = 0 → T = V) ∧ (s.e ≠ 0 → T = .error (s.e, s.i))
theorem LvG.dead {s : RS} {V W : Ex α} (h : LvG T s V) (he : s.e ≠ 0) : LvG T s W := ⟨fun h0 => absurd h0 he, h.2⟩
theorem lvgU {l : List UInt8} {s : RS} {f : Int → Int → Ex α} (h : LvG T s (match rU l s.a with | .error x => .error x | .ok (v, a) => f v a)) : LvG T (rsU l s).2 (f (rsU l s).1 (rsU l s).2.a) := by
 by_cases he : s.e = 0
 ·have h0 := h.1 he
  rcases rU_cases l s he with ⟨v, a, h1, h2⟩ | ⟨x, hx, h1, h2, h3⟩
  ·rw [h2]
   rw [h1] at h0
   exact ⟨fun _ => h0, fun h0 => absurd rfl h0⟩
  rw [h1] at h0
  exact ⟨fun h4 => absurd (h2.symm.trans h4) hx, fun _ => by rw [h2, h3]; exact h0⟩
 have : rsU l s = (0, s) := if_pos he
 rw [this]
 exact h.dead he
theorem lvgF {l : List UInt8} : ∀ {n : Nat} {s : RS} {f : List Nat → Int → Ex α}, LvG T s (match rFs l n s.a with | .error x => .error x | .ok (us, b) => f us b) → LvG T (rsFs l n s).2 (f (rsFs l n s).1 (rsFs l n s).2.a)
 | 0, s, f, h => h
 | n + 1, s, f, h => by
  by_cases he : s.e = 0
  ·rw [rsFs_succ (fun h0 => h0 he)]
   have h0 := h.1 he
   by_cases hx : (readFloatV l s.a).2.2 = 0
   ·have hr : rF l s.a = .ok ((rsF1 l s).1, (rsF1 l s).2.a) := by unfold rF; rw [if_pos hx]; rfl
    have h2 : (rsF1 l s).2.e = 0 := by
     show (s.fl (readFloatV l s.a).2.2 s.a).e = 0
     unfold RS.fl
     rw [if_neg (fun h3 => h3.2 hx)]
     exact he
    refine lvgF (f := fun us b => f ((rsF1 l s).1 :: us) b) ⟨fun _ => ?_, fun h3 => absurd h2 h3⟩
    rw [h0]
    show (match (match rF l s.a with | .error x => Except.error x | .ok (u, a) => match rFs l n a with | .error x => .error x | .ok (us, b) => .ok (u :: us, b)) with | .error x => Except.error x | .ok (us, b) => f us b) = _
    rw [hr]
    show (match (match rFs l n (rsF1 l s).2.a with | .error x => Except.error x | .ok (us, b) => .ok ((rsF1 l s).1 :: us, b)) with | .error x => Except.error x | .ok (us, b) => f us b) = _
    cases rFs l n (rsF1 l s).2.a with
    | error x => rfl
    | ok q => rfl
   have hr : rF l s.a = .error ((readFloatV l s.a).2.2, s.a) := by unfold rF; rw [if_neg hx]
   have h2 : (rsF1 l s).2.e = (readFloatV l s.a).2.2 ∧ (rsF1 l s).2.i = s.a := by
    show (s.fl (readFloatV l s.a).2.2 s.a).e = _ ∧ (s.fl (readFloatV l s.a).2.2 s.a).i = _
    unfold RS.fl
    rw [if_pos ⟨he, hx⟩]
    exact ⟨rfl, rfl⟩
   have h3 : (rsF1 l s).2.e ≠ 0 := by rw [h2.1]; exact hx
   rw [rsFs_dead h3]
   refine ⟨fun h4 => absurd h4 h3, fun _ => ?_⟩
   rw [h0]
   show (match (match rF l s.a with | .error x => Except.error x | .ok (u, a) => match rFs l n a with | .error x => .error x | .ok (us, b) => .ok (u :: us, b)) with | .error x => Except.error x | .ok (us, b) => f us b) = _
   rw [hr]
   show Except.error ((readFloatV l s.a).2.2, s.a) = Except.error ((rsF1 l s).2.e, (rsF1 l s).2.i)
   rw [h2.1, h2.2]
  rw [rsFs_dead he]
  exact h.dead he
theorem lvgI {l : List UInt8} {s : RS} {c : Prop} [Decidable c] {x y : Int} {V : Ex α} (hx : x ≠ 0) (h : LvG T s (if c then .error (x, y) else V)) : (s.e = 0 ∧ c → ∀ W, LvG T (s.fl x y) W) ∧ (¬ (s.e = 0 ∧ c) → LvG T s V) := by
 refine ⟨fun hc W => ?_, fun hc => ⟨fun h0 => (h.1 h0).trans (if_neg fun h2 => hc ⟨h0, h2⟩), h.2⟩⟩
 unfold RS.fl
 rw [if_pos ⟨hc.1, hx⟩]
 exact ⟨fun h0 => absurd h0 hx, fun _ => (h.1 hc.1).trans (if_pos hc.2)⟩
theorem lvgF1 {l : List UInt8} {s : RS} {f : Nat → Int → Ex α} (h : LvG T s (match rF l s.a with | .error x => .error x | .ok (u, b) => f u b)) : LvG T (rsFs l 1 s).2 (f ((rsFs l 1 s).1.getD 0 0) (rsFs l 1 s).2.a) := by
 refine lvgF (f := fun us b => f (us.getD 0 0) b) ?_
 have he : (match rFs l 1 s.a with | .error x => Except.error x | .ok (us, b) => f (us.getD 0 0) b) = (match rF l s.a with | .error x => .error x | .ok (u, b) => f u b) := by
  unfold rFs
  cases rF l s.a with
  | error x => rfl
  | ok p => rfl
 rw [he]
 exact h
theorem lvgE {s : RS} {x y : Int} {V W : Ex α} (h : LvG T s V) (h1 : s.e = 0 → x ≠ 0 → V = .error (x, y)) (h2 : s.e = 0 → x = 0 → V = W) : LvG T (s.fl x y) W := by
 unfold RS.fl
 by_cases hx : s.e = 0 ∧ x ≠ 0
 ·rw [if_pos hx]
  exact ⟨fun h0 => absurd h0 hx.2, fun _ => (h.1 hx.1).trans (h1 hx.1 hx.2)⟩
 rw [if_neg hx]
 refine ⟨fun h0 => ?_, h.2⟩
 have hx0 : x = 0 := Decidable.byContradiction fun h3 => hx ⟨h0, h3⟩
 exact (h.1 h0).trans (h2 h0 hx0)
end
theorem lvgH (l : List UInt8) : LvG (decNetV l) (rsH [65, 77, 66, 78] l) (dnS l) := by
 unfold rsH LvG
 cases h : hdV [65, 77, 66, 78] l with
 | none => exact ⟨fun _ => decNetV_0 h, fun h0 => absurd rfl h0⟩
 | some x =>
  obtain ⟨x, y⟩ := x
  refine ⟨fun h0 => ?_, fun _ => decNetV_h h⟩
  unfold hdV at h
  have hx : x = 0 := h0
  subst hx
  split at h
  ·injection h with h; injection h with h; omega
  split at h
  ·injection h with h; injection h with h; omega
  split at h
  ·injection h with h; injection h with h; omega
  cases h
theorem lvgT {α : Type} {T : Ex α} {l : List UInt8} {s : RS} {q : α} (h : LvG T s (match tlV l s.a with | some x => .error x | none => .ok q)) : LvG T (rsT l s) (.ok q) := by
 unfold rsT
 by_cases he : s.e ≠ 0
 ·rw [if_pos he]; exact h.dead he
 rw [if_neg he]
 have h0 := h.1 (by omega)
 cases ht : tlV l s.a with
 | none => rw [ht] at h0; exact ⟨fun _ => h0, fun h1 => absurd h1 he⟩
 | some x =>
  obtain ⟨x, y⟩ := x
  rw [ht] at h0
  refine ⟨fun h1 => ?_, fun _ => h0⟩
  have h1 : x = 0 := h1
  subst h1
  unfold tlV at ht
  split at ht
  ·injection ht with ht; injection ht with ht; omega
  split at ht
  ·injection ht with ht; injection ht with ht; omega
  split at ht
  ·injection ht with ht; injection ht with ht; omega
  cases ht
theorem rsHN_live (l : List UInt8) : (rsH [65, 77, 66, 78] l).e = 0 → (rsH [65, 77, 66, 78] l).a = 5 ∧ 5 ≤ l.length ∧ l.length ≤ 1048576 := by
 unfold rsH hdV
 split
 ·rename_i x y h
  intro h0
  have hx : x = 0 := h0
  subst hx
  split at h
  ·injection h with h; injection h with h; omega
  split at h
  ·injection h with h; injection h with h; omega
  split at h
  ·injection h with h; injection h with h; omega
  cases h
 rename_i h
 intro _
 split at h
 ·cases h
 split at h
 ·cases h
 split at h
 ·cases h
 exact ⟨rfl, by omega, by omega⟩
set_option maxRecDepth 100000 in
theorem rdHeadN_calls {B : Nat} {w0 : World} (g : Nat) (bt : TypeId) (A : Option Addr) (c : Nat) (l : List UInt8) (L : List It) (w : World) (hS0 : St B w0 w (.blk g bt (rsC A l.length c ⟨0, 0, 0⟩) :: L)) {ok : Nat → Prop} (hr : Rdb B w0 ok A l) (hc : l.length ≤ c) (hb : l.length ≤ 4611686018427387904) :
 Calls Tryz.prog 27 ⟨[.pointer (some ⟨g, 0, none⟩), .int .u8 78]⟩ w fun en w' => en = .returned (.tuple #[]) ∧ St B w0 w' (.blk g bt (rsC A l.length c (rsH [65, 77, 66, 78] l)) :: L) := by
 refine gc_enter (N := 53) Tryz.func27 rfl rfl rfl [(0, _), (1, _)] rfl ?_
 have hS := St.start w
 have hS : St B w0 w (.blk g bt [.slice A l.length c, .int .i64 0, .int .i64 0, .int .i64 0] :: L) := hS0
 refine gc_seq fun K1 hK1 => gc_seq fun K2 hK2 => gc_region (Zp rfl (Zp rfl (Zf 0 Tryz.underlying72 rfl el22 (Zb 0 hS rfl (Zp rfl (Zp rfl (gl_nil (hK2 _ _ (gc_cond rfl rfl (fun c9 => ?_) (fun c9 => ?_))))))))))
 ·simp only [NN, reduceCtorEq] at c9
  refine gc_seq fun K3 hK3 => gc_region (Zp rfl (gl_callf rfl rfl rfl rfl Tryz.func30 rfl rfl rfl (rdFail_calls g bt A l.length c ⟨0, 0, 0⟩ (2) (1048576) _ _ hS) ?_))
  rintro _ w11 ⟨rfl, hS⟩
  refine ⟨_, rfl, ?_⟩
  refine gl_nil (hK3 _ _ (gc_ret ?_))
  simp only [XR]
  refine gk_ret0 rfl ?_
  refine ⟨rfl, ?_⟩
  rw [show rsH [65, 77, 66, 78] l = ⟨0, 2, 1048576⟩ by unfold rsH hdV; rw [if_pos (by omega)]]
  exact hS
 simp only [NN, reduceCtorEq] at c9
 refine gc_skip (hK1 _ _ (gc_seq fun K4 hK4 => gc_seq fun K5 hK5 => gc_anyS hS (by kernel_rfl) rfl fun nq2 hK => ?_))
 have hS := hS.dr nq2
 refine Yp 0 rfl (by kernel_rfl) (fun _ _ _ _ h => h) hK ?_
 refine Yp 1 rfl (by kernel_rfl) (fun _ _ _ _ h => h) hK ?_
 refine Yf 2 0 Tryz.underlying72 rfl el22 (by kernel_rfl) (fun _ _ _ _ h => h) hK ?_
 refine Yb 3 0 rfl (by kernel_rfl) (fun _ _ _ _ h => h) hK ?_
 refine Yp 4 rfl (by kernel_rfl) (fun _ _ _ _ h => h) hK ?_
 refine Yp 5 rfl (by kernel_rfl) (fun _ _ _ _ h => h) hK ?_
 refine Yp 6 rfl (by kernel_rfl) (fun _ _ _ _ h => h) hK ?_
 refine ga_split (t := 18) rfl (fun c18 => ?_) (fun c18 => ?_)
 ·simp only [NN, reduceCtorEq] at c18
  refine Ys 7 rfl (by kernel_rfl) (fun _ _ _ _ h => h) hK ?_
  refine Ys 8 rfl (by kernel_rfl) (fun _ _ _ _ h => h) hK ?_
  refine Ys 9 rfl (by kernel_rfl) (fun _ _ _ _ h => h) hK ?_
  refine Ys 10 rfl (by kernel_rfl) (fun _ _ _ _ h => h) hK ?_
  refine Ys 11 rfl (by kernel_rfl) (fun _ _ _ _ h => h) hK ?_
  refine Ys 12 rfl (by kernel_rfl) (fun _ _ _ _ h => h) hK ?_
  refine Ys 13 rfl (by kernel_rfl) (fun _ _ _ _ h => h) hK ?_
  refine Ys 14 rfl (by kernel_rfl) (fun _ _ _ _ h => h) hK ?_
  refine Ys 15 rfl (by kernel_rfl) (fun _ _ _ _ h => h) hK ?_
  refine Ys 16 rfl (by kernel_rfl) (fun _ _ _ _ h => h) hK ?_
  refine Ys 17 rfl (by kernel_rfl) (fun _ _ _ _ h => h) hK ?_
  refine Yp 18 rfl (by kernel_rfl) (fun _ _ _ _ h => h) hK ?_
  refine ga_done (by kernel_rfl) ?_
  refine hK5 _ _ (gc_cond_t rfl (gc_seq fun K6 hK6 => gc_region (Zp rfl (gl_callf rfl rfl rfl rfl Tryz.func30 rfl rfl rfl (rdFail_calls g bt A l.length c ⟨0, 0, 0⟩ (80) (0) _ _ hS) ?_))))
  rintro _ w32 ⟨rfl, hS⟩
  refine ⟨_, rfl, ?_⟩
  refine gl_nil (hK6 _ _ (gc_ret ?_))
  simp only [XR]
  refine gk_ret0 rfl ?_
  refine ⟨rfl, ?_⟩
  rw [show rsH [65, 77, 66, 78] l = ⟨0, 80, 0⟩ by unfold rsH hdV; rw [if_neg (by omega), if_pos (by left; omega)]]
  exact hS
 simp only [NN, reduceCtorEq] at c18
 refine ga_take_at 7 rfl rfl rfl rfl rfl rfl rfl (by kernel_rfl) (fun _ _ _ _ h => h) hK (fun w1 hS => op_pure hT rfl) ?_
 refine ga_take_at 8 rfl rfl rfl rfl rfl rfl rfl (by kernel_rfl) (fun _ _ _ _ h => h) hK (fun w1 hS => op_pure hT rfl) ?_
 refine ga_take_at 9 rfl rfl rfl rfl rfl rfl rfl (by kernel_rfl) (fun _ _ _ _ h => h) hK (fun w1 hS => op_fieldB 0 rfl Tryz.underlying72 rfl el22 rfl rfl) ?_
 refine ga_take_at 10 rfl rfl rfl rfl rfl rfl rfl (by kernel_rfl) (fun _ _ _ _ h => h) hK (fun w1 hS => op_loadB 0 hT hS rfl rfl rfl rfl rfl rfl) ?_
 refine ga_take_at 11 rfl rfl rfl rfl rfl rfl rfl (by kernel_rfl) (fun _ _ _ _ h => h) hK (fun w1 hS => op_slice_h hT el5 rfl rfl rfl rfl (by first | omega | (simp; omega)) (by first | omega | (simp; omega))) ?_
 refine ga_take_at 12 rfl rfl rfl rfl rfl rfl rfl (by kernel_rfl) (fun _ _ _ _ h => h) hK (fun w1 hS => op_b2s hT ((hr hS).take 4) rfl rfl rfl rfl rfl (by rw [List.length_take]; omega)) ?_
 refine ga_take_at 13 rfl rfl rfl rfl rfl rfl rfl (by kernel_rfl) (fun _ _ _ _ h => h) hK (fun w1 hS => op_pure hT rfl) ?_
 refine ga_one 14 (by kernel_rfl) rfl ?_
 refine Zu rfl (gl_lit hT hS el5 rfl rfl rfl rfl rfl rfl rfl rfl rfl fun g26 w26 hS => ?_)
 have hS := hS.moveIn 1
 refine gl_nil (ga_next (hS.erase 1) fun hK => ?_)
 refine ga_one 15 (by kernel_rfl) rfl ?_
 refine Zu rfl (gl_op rfl rfl rfl (op_b2s (l := [78]) hT (hS.rdE (i := 1) rfl) rfl rfl rfl rfl rfl (by rfl)) ?_)
 refine gl_nil (ga_next (hS.erase 1) fun hK => ?_)
 refine ga_one 16 (by kernel_rfl) rfl ?_
 refine Zu rfl (gl_op rfl rfl rfl (op_cat (a := strB [65, 77, 66]) rfl rfl rfl (by decide)) ?_)
 rw [strB_append]
 refine gl_nil (ga_next (hS.erase 1) fun hK => ?_)
 refine ga_take_at 17 rfl rfl rfl rfl rfl rfl rfl (by kernel_rfl) (fun _ _ _ _ h => h) hK (fun w1 hS => op_pure hT rfl) ?_
 refine Yp 18 rfl (by kernel_rfl) (fun _ _ _ _ h => h) hK ?_
 refine ga_done (by kernel_rfl) ?_
 refine hK5 _ _ (gc_cond rfl rfl (fun c30 => ?_) (fun c30 => ?_))
 ·simp only [NN, reduceCtorEq] at c30
  refine gc_seq fun K7 hK7 => gc_region (Zp rfl (gl_callf rfl rfl rfl rfl Tryz.func30 rfl rfl rfl (rdFail_calls g bt A l.length c ⟨0, 0, 0⟩ (80) (0) _ _ hS) ?_))
  rintro _ w32 ⟨rfl, hS⟩
  refine ⟨_, rfl, ?_⟩
  refine gl_nil (hK7 _ _ (gc_ret ?_))
  simp only [XR]
  refine gk_ret0 rfl ?_
  refine ⟨rfl, ?_⟩
  rw [show rsH [65, 77, 66, 78] l = ⟨0, 80, 0⟩ by unfold rsH hdV; rw [if_neg (by omega), if_pos (by right; intro h; exact c30 (by rw [h]; rfl))]]
  exact hS.erase 1
 simp only [NN, reduceCtorEq] at c30
 have hmm : l.take 4 = [65, 77, 66, 78] := strB_inj c30
 refine gc_skip (hK4 _ _ (gc_seq fun K8 hK8 => gc_seq fun K9 hK9 => gc_region (Zp rfl (Zp rfl (Zf 0 Tryz.underlying72 rfl el22 (Zb 0 hS rfl (Zp rfl (Zp rfl (Zp rfl (gl_split (t := 39) rfl (fun c39 => ?_) (fun c39 => ?_)))))))))))
 ·simp only [NN, reduceCtorEq] at c39
  refine Zs rfl (Zs rfl (Zs rfl (Zs rfl (Zs rfl (Zs rfl (Zs rfl (Zp rfl (gl_nil (hK9 _ _ (gc_cond_t rfl (gc_seq fun K10 hK10 => gc_region (Zp rfl (gl_callf rfl rfl rfl rfl Tryz.func30 rfl rfl rfl (rdFail_calls g bt A l.length c ⟨0, 0, 0⟩ (81) (4) _ _ hS) ?_)))))))))))))
  rintro _ w49 ⟨rfl, hS⟩
  refine ⟨_, rfl, ?_⟩
  refine gl_nil (hK10 _ _ (gc_ret ?_))
  simp only [XR]
  refine gk_ret0 rfl ?_
  refine ⟨rfl, ?_⟩
  rw [show rsH [65, 77, 66, 78] l = ⟨0, 81, 4⟩ by unfold rsH hdV; rw [if_neg (by omega), if_neg (fun h => h.elim (fun h => by omega) (fun h => h hmm)), if_pos (by left; omega)]]
  exact hS.erase 1
 simp only [NN, reduceCtorEq] at c39
 refine Zu rfl (Zp rfl (Zu rfl (Zp rfl (Zu rfl (Zf 0 Tryz.underlying72 rfl el22 (Zu rfl (Zb 0 hS rfl (Zu rfl ?_))))))))
 obtain ⟨ad, hA, hcl⟩ := (hr hS).at 0 (i := 4) (by omega) (by omega)
 refine gl_op rfl rfl rfl (op_indexAddr hT rfl rfl el5.cellsOf.1 el5.cellsOf.2 rfl rfl (by omega) (by omega) hA) ?_
 refine Zu rfl (gl_op rfl rfl rfl (op_load hT rfl rfl rfl rfl hcl) ?_)
 refine Zu rfl (Zp rfl (Zp rfl (gl_nil (hK9 _ _ (gc_cond rfl rfl (fun c47 => ?_) (fun c47 => ?_))))))
 ·simp only [NN, reduceCtorEq] at c47
  refine gc_seq fun K11 hK11 => gc_region (Zp rfl (gl_callf rfl rfl rfl rfl Tryz.func30 rfl rfl rfl (rdFail_calls g bt A l.length c ⟨0, 0, 0⟩ (81) (4) _ _ hS) ?_))
  rintro _ w49 ⟨rfl, hS⟩
  refine ⟨_, rfl, ?_⟩
  refine gl_nil (hK11 _ _ (gc_ret ?_))
  simp only [XR]
  refine gk_ret0 rfl ?_
  refine ⟨rfl, ?_⟩
  rw [show rsH [65, 77, 66, 78] l = ⟨0, 81, 4⟩ by unfold rsH hdV; rw [if_neg (by omega), if_neg (fun h => h.elim (fun h => by omega) (fun h => h hmm)), if_pos (by right; intro h; rw [show ((4 : Int)).toNat = 4 from rfl, h] at c47; exact c47 rfl)]]
  exact hS.erase 1
 simp only [NN, reduceCtorEq] at c47
 refine gc_skip (hK8 _ _ (gc_region (Zp rfl (Zp rfl (Zf 1 Tryz.underlying72 rfl el3 (gl_store 0 hS el3.cellsOf.1 el3.cellsOf.2 rfl rfl rfl rfl rfl rfl rfl rfl fun w_160 hS => ?_))))))
 refine gl_nil (gk_end0 rfl ?_)
 refine ⟨rfl, ?_⟩
 rw [show rsH [65, 77, 66, 78] l = ⟨5, 0, 0⟩ by
  unfold rsH hdV
  rw [if_neg (by omega), if_neg (fun h => h.elim (fun h => by omega) (fun h => h hmm)), if_neg]
  rintro (h | h)
  ·omega
  have e : ((l.getD 4 0).toNat : Int) = 1 := c47
  exact h (UInt8.toNat_inj.1 (by show (l.getD 4 0).toNat = 1; omega))]
 exact hS.erase 1
def hasB (k : Int) (i : Nat) : Bool := (fidx k).contains i
def fromI (k : Int) (i : Nat) : List Nat := (fidx k).filter fun j => Nat.ble i j
theorem fidx_cases (k : Int) : fidx k = [0, 1, 2, 3, 4, 5, 6] ∨ fidx k = [1, 2, 3, 4, 5, 6] ∨ fidx k = [0] ∨ fidx k = [7] ∨ fidx k = [] := by
 unfold fidx
 split
 ·exact .inl rfl
 split
 ·exact .inr (.inl rfl)
 split
 ·exact .inr (.inr (.inl rfl))
 split
 ·exact .inr (.inr (.inr (.inl rfl)))
 exact .inr (.inr (.inr (.inr rfl)))
theorem fromI_step (k : Int) (i : Nat) (hi : i < 8) : (hasB k i = true → fromI k i = i :: fromI k (i + 1)) ∧ (hasB k i = false → fromI k i = fromI k (i + 1)) := by
 unfold hasB fromI
 rcases fidx_cases k with h | h | h | h | h <;> rw [h] <;> match i, hi with
  | 0, _ => decide
  | 1, _ => decide
  | 2, _ => decide
  | 3, _ => decide
  | 4, _ => decide
  | 5, _ => decide
  | 6, _ => decide
  | 7, _ => decide
theorem fromI_0 (k : Int) : fromI k 0 = fidx k := by
 unfold fromI
 rcases fidx_cases k with h | h | h | h | h <;> rw [h] <;> rfl
theorem fromI_8 (k : Int) : fromI k 8 = [] := by
 unfold fromI
 rcases fidx_cases k with h | h | h | h | h <;> rw [h] <;> rfl
theorem hasB_win (k : Int) (i : Nat) (h : 1 ≤ i ∧ i ≤ 6) : hasB k i = decide (winV k) := by
 unfold hasB
 have hw : decide (winV k) = decide (k = 2 ∨ k = 4 ∨ k = 12) := rfl
 rw [hw]
 unfold fidx
 by_cases h2 : k = 2
 ·rw [if_pos h2, decide_eq_true (by omega)]
  match i, h with
  | 1, _ => rfl
  | 2, _ => rfl
  | 3, _ => rfl
  | 4, _ => rfl
  | 5, _ => rfl
  | 6, _ => rfl
 rw [if_neg h2]
 by_cases h4 : k = 4 ∨ k = 12
 ·rw [if_pos h4, decide_eq_true (by omega)]
  match i, h with
  | 1, _ => rfl
  | 2, _ => rfl
  | 3, _ => rfl
  | 4, _ => rfl
  | 5, _ => rfl
  | 6, _ => rfl
 rw [if_neg h4, decide_eq_false (by omega)]
 have hc : ∀ L : List Nat, (∀ j ∈ L, j < 1 ∨ 6 < j) → L.contains i = false := fun L hL => by
  rw [← Bool.not_eq_true, List.contains_iff_mem]
  intro hm
  have := hL i hm
  omega
 split
 ·exact hc _ (by decide)
 split
 ·exact hc _ (by decide)
 exact hc _ (by decide)
theorem hasB_0 (k : Int) : hasB k 0 = decide (k = 1 ∨ k = 2 ∨ k = 6) := by
 unfold hasB fidx
 by_cases h2 : k = 2
 ·rw [if_pos h2, decide_eq_true (by omega)]; rfl
 rw [if_neg h2]
 by_cases h4 : k = 4 ∨ k = 12
 ·rw [if_pos h4, decide_eq_false (by omega)]; rfl
 rw [if_neg h4]
 by_cases h1 : k = 1 ∨ k = 6
 ·rw [if_pos h1, decide_eq_true (by omega)]; rfl
 rw [if_neg h1, decide_eq_false (by omega)]
 split <;> rfl
theorem hasB_7 (k : Int) : hasB k 7 = decide (k = 5) := by
 unfold hasB fidx
 by_cases h2 : k = 2
 ·rw [if_pos h2, decide_eq_false (by omega)]; rfl
 rw [if_neg h2]
 by_cases h4 : k = 4 ∨ k = 12
 ·rw [if_pos h4, decide_eq_false (by omega)]; rfl
 rw [if_neg h4]
 by_cases h1 : k = 1 ∨ k = 6
 ·rw [if_pos h1, decide_eq_false (by omega)]; rfl
 rw [if_neg h1]
 by_cases h5 : k = 5
 ·rw [if_pos h5, decide_eq_true h5]; rfl
 rw [if_neg h5, decide_eq_false h5]; rfl
def hasP (k : Int) (i : Nat) : List Value := ((List.range 8).map fun j => Value.bool (decide (j < i) && hasB k j))
theorem hasP_at (k : Int) (i : Nat) (h : i < 8) : (hasP k i).set i (.bool (hasB k i)) = hasP k (i + 1) := by
 match i, h with
 | 0, _ => rfl
 | 1, _ => rfl
 | 2, _ => rfl
 | 3, _ => rfl
 | 4, _ => rfl
 | 5, _ => rfl
 | 6, _ => rfl
 | 7, _ => rfl
theorem has_calls (k : Int) (w : World) : Calls Tryz.prog 56 ⟨[.int .i64 k]⟩ w fun e w' => e = .returned (.tuple #[.agg ⟨hasP k 8⟩, .bool (decide (k = 4 ∨ k = 8))]) ∧ Below w.heap.size w w' := by
 refine gc_enter (N := 35) Tryz.func56 rfl rfl rfl [(0, _)] rfl ?_
 have hS := St.start w
 refine gc_seq fun K1 hK1 => gc_region (gl_alloc el117 hS rfl rfl rfl rfl fun g2 w2 hS => ?_)
 refine Zp rfl (gl_nil (hK1 _ _ (gc_seq fun K2 hK2 => gc_region (gl_alloc el117 hS rfl rfl rfl rfl fun g4 w4 hS => ?_))))
 refine gl_nil (hK2 _ _ (gc_cut (fun a' w' => ∃ g2 g4, Fr 35 a' [(0, .int .i64 k), (2, .pointer (some ⟨g2, 0, none⟩)), (4, .pointer (some ⟨g4, 0, none⟩))] ∧ St w.heap.size w w' [.blk g2 117 (hasP k 0), .blk g4 117 (hasP k 1)]) ?_ ?_))
 ·refine gc_region (Zp rfl (Zp rfl (Zp rfl (gl_split (t := 8) rfl (fun c8 => ?_) (fun c8 => ?_)))))
  ·simp only [NN, reduceCtorEq] at c8
   refine Zs rfl (Zs rfl (Zp rfl (Zp rfl (Zs rfl (Zs rfl (Zp rfl (gl_op rfl rfl rfl (op_ixA (j0 := 0) (j := 0) rfl Tryz.underlying117 el4 rfl rfl (by decide) (by decide) rfl) ?_)))))))
   refine gl_spell 15 (v := .bool (hasB k 0)) rfl ?_ ?_
   ·rw [hasB_0]
    exact congrArg Value.bool (by first | (rw [decide_eq_true (by omega)]) | (exact decide_eq_decide.2 (by omega)))
   refine gl_store 1 hS el4.cellsOf.1 el4.cellsOf.2 rfl rfl rfl rfl rfl rfl rfl rfl fun w16 hS => ?_
   refine gl_nil ?_
   intro a' ha
   exact ⟨g2, g4, ha.sub ⟨rfl, rfl, rfl, trivial⟩, hS⟩
  simp only [NN, reduceCtorEq] at c8
  refine Zu rfl (Zp rfl (Zu rfl (Zp rfl (Zp rfl (Zp rfl (gl_split (t := 12) rfl (fun c12 => ?_) (fun c12 => ?_)))))))
  ·simp only [NN, reduceCtorEq] at c12
   refine Zs rfl (Zs rfl (Zp rfl (gl_op rfl rfl rfl (op_ixA (j0 := 0) (j := 0) rfl Tryz.underlying117 el4 rfl rfl (by decide) (by decide) rfl) ?_)))
   refine gl_spell 15 (v := .bool (hasB k 0)) rfl ?_ ?_
   ·rw [hasB_0]
    exact congrArg Value.bool (by first | (rw [decide_eq_true (by omega)]) | (exact decide_eq_decide.2 (by omega)))
   refine gl_store 1 hS el4.cellsOf.1 el4.cellsOf.2 rfl rfl rfl rfl rfl rfl rfl rfl fun w16 hS => ?_
   refine gl_nil ?_
   intro a' ha
   exact ⟨g2, g4, ha.sub ⟨rfl, rfl, rfl, trivial⟩, hS⟩
  simp only [NN, reduceCtorEq] at c12
  refine Zu rfl (Zp rfl (Zu rfl (Zp rfl (Zp rfl (gl_op rfl rfl rfl (op_ixA (j0 := 0) (j := 0) rfl Tryz.underlying117 el4 rfl rfl (by decide) (by decide) rfl) ?_)))))
  refine gl_spell 15 (v := .bool (hasB k 0)) rfl ?_ ?_
  ·rw [hasB_0]
   exact congrArg Value.bool (by first | (rw [decide_eq_true (by omega)]) | (exact decide_eq_decide.2 (by omega)))
  refine gl_store 1 hS el4.cellsOf.1 el4.cellsOf.2 rfl rfl rfl rfl rfl rfl rfl rfl fun w16 hS => ?_
  refine gl_nil ?_
  intro a' ha
  exact ⟨g2, g4, ha.sub ⟨rfl, rfl, rfl, trivial⟩, hS⟩
 rintro a' w1 ⟨g2, g4, hF, hS⟩
 refine gc_of hF ?_
 clear hF
 refine gc_seq fun K3 hK3 => gc_seq fun K4 hK4 => gc_region (Zp rfl (gl_nil (hK4 _ _ (gc_block (gc_loop (fun kk a' w' => ∃ i : Nat, Fr 35 a' [(0, .int .i64 k), (2, .pointer (some ⟨g2, 0, none⟩)), (4, .pointer (some ⟨g4, 0, none⟩)), (5, .int .i64 (i : Nat))] ∧ 1 ≤ i ∧ i ≤ 7 ∧ kk = 8 - i ∧ St w.heap.size w w' [.blk g2 117 (hasP k 0), .blk g4 117 (hasP k i)]) 7 ?_ ?_ ?_)))))
 ·intro a' ha; exact ⟨1, ha.sub ⟨rfl, rfl, rfl, rfl, trivial⟩, by omega, by omega, by omega, hS⟩
 ·rintro a' w' ⟨i, _, h1, h2, h3, _⟩; omega
 clear hS
 rintro kk a' w1 ⟨i, hF, hi1, hi7, hkk, hS⟩
 refine gc_of hF ?_
 clear hF
 refine gc_seq fun K5 hK5 => gc_seq fun K6 hK6 => gc_region (Zp rfl (Zp rfl (gl_nil (hK6 _ _ (gc_cond rfl rfl (fun c18 => ?_) (fun c18 => ?_))))))
 ·simp only [NN, reduceCtorEq] at c18
  refine gc_skip (hK5 _ _ (gc_seq fun K7 hK7 => gc_block (gc_region (Zp rfl (Zp rfl (gl_callf rfl rfl rfl rfl Tryz.func81 rfl rfl rfl (fWindows_calls k _) ?_))))))
  rintro _ _ ⟨rfl, n23, rfl⟩
  refine ⟨_, rfl, ?_⟩
  have hS := hS.dr n23
  refine gl_op rfl rfl rfl (op_ixA (j0 := 0) (j := i) rfl Tryz.underlying117 el4 rfl rfl (by omega) (by omega) (by omega)) ?_
  refine gl_store 1 hS el4.cellsOf.1 el4.cellsOf.2 rfl rfl rfl rfl rfl rfl (Nat.ble_eq_true_of_le (show i + 1 ≤ 8 by omega)) rfl fun ws24 hS => ?_
  refine gl_nil (hK7 _ _ (gc_region (Zp rfl (Zi rfl (by omega) ?_))))
  refine Zp rfl (gl_nil ?_)
  intro a' ha
  refine ⟨i + 1, ha.sub ⟨rfl, rfl, rfl, rfl, trivial⟩, by omega, by omega, by omega, ?_⟩
  have e1 := hasP_at k i (by omega)
  rw [hasB_win k i (by omega)] at e1
  rw [← e1]
  exact hS
 simp only [NN, reduceCtorEq] at c18
 have hi7 : i = 7 := by omega
 subst hi7
 refine gc_exit ?_
 refine hK3 _ _ (gc_seq fun K8 hK8 => gc_region (Zp rfl (Zp rfl (gl_op rfl rfl rfl (op_ixA (j0 := 0) (j := 7) rfl Tryz.underlying117 el4 rfl rfl (by decide) (by decide) rfl) ?_))))
 refine gl_spell 26 (v := .bool (hasB k 7)) rfl (by rw [hasB_7]) ?_
 refine gl_store 1 hS el4.cellsOf.1 el4.cellsOf.2 rfl rfl rfl rfl rfl rfl rfl rfl fun w27 hS => ?_
 have hS : St w.heap.size w w27 [.blk g2 117 (hasP k 0), .blk g4 117 (hasP k 8)] := hS
 refine gl_nil (hK8 _ _ (gc_seq fun K9 hK9 => gc_region (Zg 1 Tryz.underlying117 el117 hS rfl (Zp rfl (Zp rfl (Zp rfl (gl_split (t := 31) rfl (fun c31 => ?_) (fun c31 => ?_))))))))
 ·simp only [NN, reduceCtorEq] at c31
  refine Zs rfl (Zs rfl (Zp rfl (gl_storeM 0 hS el117 rfl rfl rfl rfl rfl rfl rfl rfl rfl fun w_63 hS => ?_)))
  refine Zp rfl (gl_nil (hK9 _ _ (gc_ret (gk_res2 rfl (⟨_, rfl, run_loadVarB 0 Tryz.underlying117 rfl el117 hS rfl rfl rfl⟩) (rfl) ?_))))
  refine ⟨?_, hS.below⟩
  rw [decide_eq_true (show k = 4 ∨ k = 8 by omega)]; rfl
 simp only [NN, reduceCtorEq] at c31
 refine Zu rfl (Zp rfl (Zu rfl (Zp rfl (Zp rfl (gl_storeM 0 hS el117 rfl rfl rfl rfl rfl rfl rfl rfl rfl fun w_63 hS => ?_)))))
 refine Zp rfl (gl_nil (hK9 _ _ (gc_ret (gk_res2 rfl (⟨_, rfl, run_loadVarB 0 Tryz.underlying117 rfl el117 hS rfl rfl rfl⟩) (rfl) ?_))))
 refine ⟨?_, hS.below⟩
 rw [show decide (k = 4 ∨ k = 8) = decide (k = 8) from decide_eq_decide.2 (by omega)]; rfl
end Go.Proofs.YtnomlloaahoceaaGreatDoor
