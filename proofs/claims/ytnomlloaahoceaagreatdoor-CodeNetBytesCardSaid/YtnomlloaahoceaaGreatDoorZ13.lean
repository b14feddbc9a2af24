/- Contracts of functions that CodeNetBytes reaches, and words to say them. No condition. -/
import Derived.Test.YtnomlloaahoceaaGreatDoorZ07
import Derived.Test.YtnomlloaahoceaaGreatDoorZ03
import Derived.Test.YtnomlloaahoceaaGreatDoorZ12
import Derived.Test.YtnomlloaahoceaaGreatDoorZ10
/- Contracts of names. No condition. -/
namespace Go.Proofs.YtnomlloaahoceaaGreatDoor
open Go.RowKit
set_option linter.unusedVariables false
set_option linter.unusedSimpArgs false
def okP (p : Int) : Bool := !decide (p < 33 ∨ p = 35 ∨ (127 ≤ p ∧ p ≤ 160))
def nmFrom (s : ByteArray) : Nat → Nat → Bool
 | 0, _ => true
 | f + 1, pos => if pos < s.size then okP ((Utf8.decode s pos).1 : Int) && nmFrom s f (pos + (Utf8.decode s pos).2) else true
def nameV (s : ByteArray) : Bool := (runesV s).2 && decide (1 ≤ (runesV s).1 ∧ (runesV s).1 ≤ 32) && nmFrom s (s.size + 1) 0
theorem nmFrom_end {s : ByteArray} {f pos : Nat} (h : s.size ≤ pos) : nmFrom s f pos = true := by
 cases f with
 | zero => rfl
 | succ f => rw [nmFrom, if_neg (by omega)]
theorem nmFrom_bad {s : ByteArray} {f pos : Nat} (h : pos < s.size) (h1 : okP ((Utf8.decode s pos).1 : Int) = false) : nmFrom s (f + 1) pos = false := by
 rw [nmFrom, if_pos h, h1, Bool.false_and]
theorem nmFrom_more {s : ByteArray} {f pos : Nat} (h : pos < s.size) (h1 : okP ((Utf8.decode s pos).1 : Int) = true) : nmFrom s (f + 1) pos = nmFrom s f (pos + (Utf8.decode s pos).2) := by
 rw [nmFrom, if_pos h, h1, Bool.true_and]
theorem okP_f {p : Int} (h : p < 33 ∨ p = 35 ∨ (127 ≤ p ∧ p ≤ 160)) : okP p = false := by unfold okP; rw [decide_eq_true h]; rfl
theorem okP_t {p : Int} (h : ¬ (p < 33 ∨ p = 35 ∨ (127 ≤ p ∧ p ≤ 160))) : okP p = true := by unfold okP; rw [decide_eq_false h]; rfl
theorem nameV_f1 {s : ByteArray} (h : (runesV s).2 = false) : nameV s = false := by unfold nameV; rw [h]; rfl
theorem nameV_f2 {s : ByteArray} (h : ¬ (1 ≤ (runesV s).1 ∧ (runesV s).1 ≤ 32)) : nameV s = false := by unfold nameV; rw [decide_eq_false h, Bool.and_false, Bool.false_and]
theorem nameV_f3 {s : ByteArray} (h : nmFrom s (s.size + 1) 0 = false) : nameV s = false := by unfold nameV; rw [h, Bool.and_false]
theorem nameV_t {s : ByteArray} (h1 : (runesV s).2 = true) (h2 : 1 ≤ (runesV s).1 ∧ (runesV s).1 ≤ 32) (h : nmFrom s (s.size + 1) 0 = true) : nameV s = true := by unfold nameV; rw [h1, h, decide_eq_true h2]; rfl
theorem name_calls (s : ByteArray) (hs : s.size ≤ 4611686018427387904) (w : World) (hU : Tabs w) :
 Calls Tryz.prog 54 ⟨[.string s]⟩ w fun e w' => e = .returned (.bool (nameV s)) ∧ Below w.heap.size w w' := by
 refine gc_enter (N := 41) Tryz.func54 rfl rfl rfl [(0, _)] rfl ?_
 have hS := St.start w
 refine gc_seq fun K1 hK1 => gc_region (Zp rfl (gl_nil (hK1 _ _ (gc_seq fun K2 hK2 => gc_region (Zp rfl (gl_callf rfl rfl rfl rfl Tryz.func79 rfl rfl rfl (Runes_calls s hs _ (hU.old hS)) ?_))))))
 rintro _ w9 ⟨rfl, hb9⟩
 refine ⟨_, rfl, ?_⟩
 have hS := hS.grown hb9
 generalize hr1 : (runesV s).1 = r1
 generalize hr2 : (runesV s).2 = r2
 refine Zp rfl (Zp rfl (Zp rfl (Zp rfl (Zp rfl (gl_nil (hK2 _ _ (gc_seq fun K3 hK3 => gc_seq fun K4 hK4 => gc_region (Zp rfl (Zp rfl (Zp rfl (gl_split (t := 14) rfl (fun c14 => ?_) (fun c14 => ?_))))))))))))
 ·simp only [NN, reduceCtorEq] at c14
  refine Zs rfl (Zs rfl (Zp rfl (Zp rfl (Zs rfl (Zs rfl (Zp rfl (gl_nil (hK4 _ _ (gc_cond_t rfl (gc_seq fun K5 hK5 => gc_region (Zp rfl (gl_nil (hK5 _ _ (gc_ret ?_))))))))))))))
  simp only [XR]
  refine gk_ret1 rfl rfl ?_
  refine ⟨?_, hS.below⟩
  rw [nameV_f1 (by rw [hr2]; simpa using c14)]; done
 simp only [NN, reduceCtorEq] at c14
 refine Zu rfl (Zp rfl (Zu rfl (Zp rfl (Zp rfl (Zp rfl (gl_split (t := 18) rfl (fun c18 => ?_) (fun c18 => ?_)))))))
 ·simp only [NN, reduceCtorEq] at c18
  refine Zs rfl (Zs rfl (Zp rfl (gl_nil (hK4 _ _ (gc_cond_t rfl (gc_seq fun K6 hK6 => gc_region (Zp rfl (gl_nil (hK6 _ _ (gc_ret ?_))))))))))
  simp only [XR]
  refine gk_ret1 rfl rfl ?_
  refine ⟨?_, hS.below⟩
  rw [nameV_f2 (by rw [hr1]; omega)]; done
 simp only [NN, reduceCtorEq] at c18
 refine Zu rfl (Zp rfl (Zu rfl (Zp rfl (Zp rfl (gl_nil (hK4 _ _ (gc_cond rfl rfl (fun c21 => ?_) (fun c21 => ?_))))))))
 ·simp only [NN, reduceCtorEq] at c21
  refine gc_seq fun K7 hK7 => gc_region (Zp rfl (gl_nil (hK7 _ _ (gc_ret ?_))))
  simp only [XR]
  refine gk_ret1 rfl rfl ?_
  refine ⟨?_, hS.below⟩
  rw [nameV_f2 (by rw [hr1]; omega)]; done
 simp only [NN, reduceCtorEq] at c21
 refine gc_skip (hK3 _ _ (gc_seq fun K8 hK8 => gc_seq fun K9 hK9 => gc_region (Zp rfl (gl_range hT hS rfl rfl rfl rfl rfl rfl fun g23 w23 hS => ?_))))
 refine gl_nil (hK9 _ _ (gc_block ?_))
 refine gc_loop (fun k a w' => ∃ (pos g : Nat), Fr 41 a [(23, .pointer (some ⟨g, 0, none⟩))] ∧ pos ≤ s.size ∧ s.size < k + pos ∧ nmFrom s k pos = nmFrom s (s.size + 1) 0 ∧
  St w.heap.size w w' [.obj g (.stringIter s pos)]) (s.size + 1) ?_ ?_ ?_
 ·intro a ha; exact ⟨0, _, ha.sub ⟨rfl, trivial⟩, by omega, by omega, rfl, hS⟩
 ·rintro a w ⟨pos, g, _, h1, h2, _⟩; omega
 rintro f a w1 ⟨pos, g, hF, hpos, hf, hr, hS⟩
 refine gc_of hF ?_
 refine gc_seq fun K10 hK10 => gc_region (gl_next 0 hS rfl rfl rfl rfl rfl rfl (fun p24 w24 hS => ?_) (fun p24 => ?_))
 ·have hw1 := Lib.decode_width_pos s pos p24
  refine Zp rfl (gl_nil (hK10 _ _ (gc_seq fun K11 hK11 => gc_cond_t rfl (gc_skip (hK11 _ _ (gc_block (gc_seq fun K12 hK12 => gc_region (Zp rfl (Zp rfl (gl_nil (hK12 _ _ (gc_seq fun K13 hK13 => gc_region (Zp rfl (Zp rfl (Zp rfl (gl_split (t := 29) rfl (fun c29 => ?_) (fun c29 => ?_)))))))))))))))))
  ·simp only [NN, reduceCtorEq] at c29
   refine Zs rfl (Zs rfl (Zp rfl (Zp rfl (Zs rfl (Zs rfl (Zs rfl (gl_none rfl rfl rfl rfl rfl ?_)))))))
   refine gl_none rfl rfl rfl rfl rfl ?_
   refine Zs rfl (Zp rfl (gl_nil (hK13 _ _ (gc_cond_t rfl (gc_seq fun K14 hK14 => gc_region (Zp rfl (gl_nil (hK14 _ _ (gc_ret ?_)))))))))
   simp only [XR]
   refine gk_ret1 rfl rfl ?_
   refine ⟨?_, hS.below⟩
   rw [nameV_f3 (by rw [← hr, nmFrom_bad p24 (okP_f (by omega))])]; done
  simp only [NN, reduceCtorEq] at c29
  refine Zu rfl (Zp rfl (Zu rfl (Zp rfl (Zp rfl (Zp rfl (gl_split (t := 33) rfl (fun c33 => ?_) (fun c33 => ?_)))))))
  ·simp only [NN, reduceCtorEq] at c33
   refine Zs rfl (Zs rfl (Zs rfl (gl_none rfl rfl rfl rfl rfl ?_)))
   refine gl_none rfl rfl rfl rfl rfl ?_
   refine Zs rfl (Zp rfl (gl_nil (hK13 _ _ (gc_cond_t rfl (gc_seq fun K15 hK15 => gc_region (Zp rfl (gl_nil (hK15 _ _ (gc_ret ?_)))))))))
   simp only [XR]
   refine gk_ret1 rfl rfl ?_
   refine ⟨?_, hS.below⟩
   rw [nameV_f3 (by rw [← hr, nmFrom_bad p24 (okP_f (by omega))])]; done
  simp only [NN, reduceCtorEq] at c33
  refine Zu rfl (Zp rfl (Zu rfl (Zp rfl (Zu rfl (Zp rfl (gl_split (t := 36) rfl (fun c36 => ?_) (fun c36 => ?_)))))))
  ·simp only [NN, reduceCtorEq] at c36
   refine Zu rfl (Zp rfl (Zu rfl (Zp rfl (Zu rfl (Zp rfl (Zp rfl (gl_nil (hK13 _ _ (gc_cond rfl rfl (fun c40 => ?_) (fun c40 => ?_))))))))))
   ·simp only [NN, reduceCtorEq] at c40
    refine gc_seq fun K16 hK16 => gc_region (Zp rfl (gl_nil (hK16 _ _ (gc_ret ?_))))
    simp only [XR]
    refine gk_ret1 rfl rfl ?_
    refine ⟨?_, hS.below⟩
    rw [nameV_f3 (by rw [← hr, nmFrom_bad p24 (okP_f (by omega))])]; done
   simp only [NN, reduceCtorEq] at c40
   refine gc_skip ?_
   intro a ha
   have hmore := nmFrom_more (f := f) p24 (okP_t (by omega))
   have hle : pos + (Utf8.decode s pos).2 ≤ s.size := decode_fit s pos p24
   exact ⟨_, g, ha.sub ⟨rfl, trivial⟩, hle, by omega, by rw [← hr, hmore], hS⟩
  simp only [NN, reduceCtorEq] at c36
  refine Zs rfl (Zs rfl (Zu rfl (Zp rfl (Zp rfl (gl_nil (hK13 _ _ (gc_cond_f rfl (gc_skip ?_))))))))
  intro a ha
  have hmore := nmFrom_more (f := f) p24 (okP_t (by omega))
  have hle : pos + (Utf8.decode s pos).2 ≤ s.size := decode_fit s pos p24
  exact ⟨_, g, ha.sub ⟨rfl, trivial⟩, hle, by omega, by rw [← hr, hmore], hS⟩
 refine Zp rfl (gl_nil (hK10 _ _ (gc_seq fun K17 hK17 => gc_cond_f rfl (gc_exit ?_))))
 refine hK8 _ _ (gc_seq fun K18 hK18 => gc_region (Zp rfl (gl_nil (hK18 _ _ (gc_ret (gk_ret1 rfl rfl ?_))))))
 refine ⟨?_, hS.below⟩
 rw [nameV_t (by rw [hr2]; simpa using c14) (by rw [hr1]; omega) (by rw [← hr, nmFrom_end (by omega)])]; done
theorem rname_calls (s : ByteArray) (hs : s.size ≤ 4611686018427387904) (w : World) :
 Calls Tryz.prog 63 ⟨[.string s]⟩ w fun e w' => e = .returned (.bool (nameV s)) ∧ Below w.heap.size w w' := by
 refine gc_enter (N := 50) Tryz.func63 rfl rfl rfl [(0, _)] rfl ?_
 have hS := St.start w
 refine gc_seq fun K1 hK1 => gc_region (Zp rfl (gl_nil (hK1 _ _ (gc_seq fun K2 hK2 => gc_region (Zp rfl (gl_callf rfl rfl rfl rfl Tryz.func87 rfl rfl rfl (rRunes_calls s hs _) ?_))))))
 rintro _ w10 ⟨rfl, hb10⟩
 refine ⟨_, rfl, ?_⟩
 have hS := hS.grown hb10
 generalize hr1 : (runesV s).1 = r1
 generalize hr2 : (runesV s).2 = r2
 refine Zp rfl (Zp rfl (Zp rfl (Zp rfl (Zp rfl (gl_nil (hK2 _ _ (gc_seq fun K3 hK3 => gc_seq fun K4 hK4 => gc_region (Zp rfl (Zp rfl (Zp rfl (gl_split (t := 15) rfl (fun c15 => ?_) (fun c15 => ?_))))))))))))
 ·simp only [NN, reduceCtorEq] at c15
  refine Zs rfl (Zs rfl (Zp rfl (Zp rfl (Zs rfl (Zs rfl (Zp rfl (gl_nil (hK4 _ _ (gc_cond_t rfl (gc_seq fun K5 hK5 => gc_region (Zp rfl (gl_nil (hK5 _ _ (gc_ret ?_))))))))))))))
  simp only [XR]
  refine gk_ret1 rfl rfl ?_
  refine ⟨?_, hS.below⟩
  rw [nameV_f1 (by rw [hr2]; simpa using c15)]; done
 simp only [NN, reduceCtorEq] at c15
 refine Zu rfl (Zp rfl (Zu rfl (Zp rfl (Zp rfl (Zp rfl (gl_split (t := 19) rfl (fun c19 => ?_) (fun c19 => ?_)))))))
 ·simp only [NN, reduceCtorEq] at c19
  refine Zs rfl (Zs rfl (Zp rfl (gl_nil (hK4 _ _ (gc_cond_t rfl (gc_seq fun K6 hK6 => gc_region (Zp rfl (gl_nil (hK6 _ _ (gc_ret ?_))))))))))
  simp only [XR]
  refine gk_ret1 rfl rfl ?_
  refine ⟨?_, hS.below⟩
  rw [nameV_f2 (by rw [hr1]; omega)]; done
 simp only [NN, reduceCtorEq] at c19
 refine Zu rfl (Zp rfl (Zu rfl (Zp rfl (Zp rfl (gl_nil (hK4 _ _ (gc_cond rfl rfl (fun c22 => ?_) (fun c22 => ?_))))))))
 ·simp only [NN, reduceCtorEq] at c22
  refine gc_seq fun K7 hK7 => gc_region (Zp rfl (gl_nil (hK7 _ _ (gc_ret ?_))))
  simp only [XR]
  refine gk_ret1 rfl rfl ?_
  refine ⟨?_, hS.below⟩
  rw [nameV_f2 (by rw [hr1]; omega)]; done
 simp only [NN, reduceCtorEq] at c22
 refine gc_skip (hK3 _ _ (gc_seq fun K8 hK8 => gc_seq fun K9 hK9 => gc_region (Zp rfl (gl_nil (hK9 _ _ (gc_block ?_))))))
 refine gc_loop (fun k a w' => ∃ (pos n : Nat), Fr 50 a [(0, .string s), (5, .int .i64 (pos : Nat))] ∧ pos ≤ s.size ∧ s.size < k + pos ∧ nmFrom s k pos = nmFrom s (s.size + 1) 0 ∧ runesFrom s k pos n = runesFrom s (s.size + 1) 0 0 ∧
  St w.heap.size w w' []) (s.size + 1) ?_ ?_ ?_
 ·intro a ha; exact ⟨0, 0, ha.sub ⟨rfl, rfl, trivial⟩, by omega, by omega, rfl, rfl, hS⟩
 ·rintro a w ⟨pos, n, _, h1, h2, _⟩; omega
 rintro f a w1 ⟨pos, n, hF, hpos, hf, hr, hrn, hS⟩
 refine gc_of hF ?_
 refine gc_seq fun K10 hK10 => gc_seq fun K11 hK11 => gc_region (Zp rfl (Zp rfl (Zp rfl (Zp rfl (gl_nil (hK11 _ _ (gc_cond rfl rfl (fun c26 => ?_) (fun c26 => ?_))))))))
 ·simp only [NN, reduceCtorEq] at c26
  refine gc_skip (hK10 _ _ (gc_block (gc_seq fun K12 hK12 => gc_region (Zp rfl (Zp rfl ?_)))))
  have hlt : pos < s.size := by omega
  have hw1 := Lib.decode_width_pos s pos hlt
  have hfit := decode_fit s pos hlt
  have hmore := fun h => runesFrom_more (f := f) (n := n) hlt h
  have hgood : ¬ badAt s pos := by
   intro hb
   have : runesV s = (0, false) := by unfold runesV; rw [← hrn, runesFrom_bad hlt hb.1 hb.2]
   rw [this] at hr2
   simp only at hr2
   rw [← hr2] at c15
   simp at c15
  have hdec : atV s pos = (((Utf8.decode s pos).1 : Int), ((Utf8.decode s pos).2 : Int)) := by
   rcases atV_decode s pos hlt with ⟨h, _⟩ | ⟨_, h⟩
   ·exact absurd h hgood
   exact h
  refine gl_callf rfl rfl rfl rfl Tryz.func88 rfl rfl rfl (At_calls s pos hlt hs _) ?_
  rintro _ w30 ⟨rfl, hb30⟩
  refine ⟨_, rfl, ?_⟩
  have hS := hS.grown hb30
  rw [hdec]
  refine Zp rfl (Zp rfl (Zp rfl (Zp rfl (Zp rfl (gl_nil (hK12 _ _ (gc_seq fun K13 hK13 => gc_seq fun K14 hK14 => gc_region (Zp rfl (Zp rfl (Zp rfl (gl_split (t := 35) rfl (fun c35 => ?_) (fun c35 => ?_))))))))))))
  ·simp only [NN, reduceCtorEq] at c35
   refine Zs rfl (Zs rfl (Zp rfl (Zp rfl (Zs rfl (Zs rfl (Zs rfl (gl_none rfl rfl rfl rfl rfl ?_)))))))
   refine gl_none rfl rfl rfl rfl rfl ?_
   refine Zs rfl (Zp rfl (gl_nil (hK14 _ _ (gc_cond_t rfl (gc_seq fun K15 hK15 => gc_region (Zp rfl (gl_nil (hK15 _ _ (gc_ret ?_)))))))))
   simp only [XR]
   refine gk_ret1 rfl rfl ?_
   refine ⟨?_, hS.below⟩
   rw [nameV_f3 (by rw [← hr, nmFrom_bad hlt (okP_f (by omega))])]; done
  simp only [NN, reduceCtorEq] at c35
  refine Zu rfl (Zp rfl (Zu rfl (Zp rfl (Zp rfl (Zp rfl (gl_split (t := 39) rfl (fun c39 => ?_) (fun c39 => ?_)))))))
  ·simp only [NN, reduceCtorEq] at c39
   refine Zs rfl (Zs rfl (Zs rfl (gl_none rfl rfl rfl rfl rfl ?_)))
   refine gl_none rfl rfl rfl rfl rfl ?_
   refine Zs rfl (Zp rfl (gl_nil (hK14 _ _ (gc_cond_t rfl (gc_seq fun K16 hK16 => gc_region (Zp rfl (gl_nil (hK16 _ _ (gc_ret ?_)))))))))
   simp only [XR]
   refine gk_ret1 rfl rfl ?_
   refine ⟨?_, hS.below⟩
   rw [nameV_f3 (by rw [← hr, nmFrom_bad hlt (okP_f (by omega))])]; done
  simp only [NN, reduceCtorEq] at c39
  refine Zu rfl (Zp rfl (Zu rfl (Zp rfl (Zu rfl (Zp rfl (gl_split (t := 42) rfl (fun c42 => ?_) (fun c42 => ?_)))))))
  ·simp only [NN, reduceCtorEq] at c42
   refine Zu rfl (Zp rfl (Zu rfl (Zp rfl (Zu rfl (Zp rfl (Zp rfl (gl_nil (hK14 _ _ (gc_cond rfl rfl (fun c46 => ?_) (fun c46 => ?_))))))))))
   ·simp only [NN, reduceCtorEq] at c46
    refine gc_seq fun K17 hK17 => gc_region (Zp rfl (gl_nil (hK17 _ _ (gc_ret ?_))))
    simp only [XR]
    refine gk_ret1 rfl rfl ?_
    refine ⟨?_, hS.below⟩
    rw [nameV_f3 (by rw [← hr, nmFrom_bad hlt (okP_f (by omega))])]; done
   simp only [NN, reduceCtorEq] at c46
   refine gc_skip (hK13 _ _ (gc_region (Zp rfl (Zp rfl (Zi rfl (by omega) ?_)))))
   refine Zp rfl (gl_nil ?_)
   intro a ha
   have hm2 := nmFrom_more (f := f) hlt (okP_t (by omega))
   exact ⟨pos + (Utf8.decode s pos).2, n + 1, ha.sub ⟨rfl, rfl, trivial⟩, hfit, by omega, by rw [← hr, hm2], by rw [← hrn, hmore hgood], hS⟩
  simp only [NN, reduceCtorEq] at c42
  refine Zs rfl (Zs rfl (Zu rfl (Zp rfl (Zp rfl (gl_nil (hK14 _ _ (gc_cond_f rfl (gc_skip (hK13 _ _ (gc_region (Zp rfl (Zp rfl (Zi rfl (by omega) ?_)))))))))))))
  refine Zp rfl (gl_nil ?_)
  intro a ha
  have hm2 := nmFrom_more (f := f) hlt (okP_t (by omega))
  exact ⟨pos + (Utf8.decode s pos).2, n + 1, ha.sub ⟨rfl, rfl, trivial⟩, hfit, by omega, by rw [← hr, hm2], by rw [← hrn, hmore hgood], hS⟩
 simp only [NN, reduceCtorEq] at c26
 refine gc_exit ?_
 refine hK8 _ _ (gc_seq fun K18 hK18 => gc_region (Zp rfl (gl_nil (hK18 _ _ (gc_ret (gk_ret1 rfl rfl ?_))))))
 refine ⟨?_, hS.below⟩
 rw [nameV_t (by rw [hr2]; simpa using c15) (by rw [hr1]; omega) (by rw [← hr, nmFrom_end (by omega)])]; done
end Go.Proofs.YtnomlloaahoceaaGreatDoor

/- What is told of bytes as a network. No program in sight; no condition. -/
namespace Go.Proofs.YtnomlloaahoceaaGreatDoor
open Go.RowKit
set_option linter.unusedVariables false
set_option linter.unusedSimpArgs false
structure Nx where
 s : Sh
 xs : List Lx
 ns : List ByteArray
@[reducible] def nilS : Sv := (none, 0, 0)
def zSh : Sh := ⟨0, 0, 0⟩
@[reducible] def bare (L : Ly) : Ly := ⟨L.k, L.out, L.kh, L.kw, L.sh, L.sw, L.ph, L.pw, L.fr, L.a, nilS, nilS, nilS, nilS⟩
def rT (l : List UInt8) (at_ : Int) : Ex (ByteArray × Int) := if (readTextV l at_ 128).2.2 = 0 then .ok ((readTextV l at_ 128).1, (readTextV l at_ 128).2.1) else .error ((readTextV l at_ 128).2.2, at_)
def dnTail (l : List UInt8) (n : Nx) (at_ : Int) : Ex Nx := match tlV l at_ with | some x => .error x | none => .ok n
instance memB (t : ByteArray) (N : List ByteArray) : Decidable (t ∈ N) := decidable_of_iff (N.any (fun u => decide (u = t)) = true) (by simp)
def dnNs (l : List UInt8) (s : Sh) (xs : List Lx) : Nat → List ByteArray → Int → Ex Nx
 | 0, N, at_ => dnTail l ⟨s, xs, N⟩ at_
 | k + 1, N, at_ => match rT l at_ with
  | .error x => .error x
  | .ok (t, a) => if nameV t = false ∨ t ∈ N then .error (67, at_) else dnNs l s xs k (N ++ [t]) a
def dnN (l : List UInt8) (s : Sh) (xs : List Lx) (width at_ : Int) : Ex Nx :=
 match rU l at_ with | .error x => .error x | .ok (n, a) => if n ≠ 0 ∧ n ≠ width then .error (63, at_) else dnNs l s xs n.toNat [] a
def fidx (k : Int) : List Nat := if k = 2 then [0, 1, 2, 3, 4, 5, 6] else if k = 4 ∨ k = 12 then [1, 2, 3, 4, 5, 6] else if k = 1 ∨ k = 6 then [0] else if k = 5 then [7] else []
def v0 : List Int := [0, 0, 0, 0, 0, 0, 0, 0]
@[reducible] def mkL (k : Int) (v : List Int) (a : Nat) : Ly := ⟨k, v.getD 0 0, v.getD 1 0, v.getD 2 0, v.getD 3 0, v.getD 4 0, v.getD 5 0, v.getD 6 0, v.getD 7 0, a, nilS, nilS, nilS, nilS⟩
def prs : List Nat → List (Nat × Nat)
 | a :: b :: r => (a, b) :: prs r
 | _ => []
abbrev Lyr := Lx × Sh × Int
def dlZB (l : List UInt8) (L : Ly) (o : Sh) (zb : Nat) (W B Z : List Nat) (at_ : Int) : Ex Lyr := match rFs l (2 * zb) at_ with | .error x => .error x | .ok (ZB, a) => .ok (⟨L, W, B, prs Z, prs ZB⟩, o, a)
def dlZ (l : List UInt8) (L : Ly) (o : Sh) (z zb : Nat) (W B : List Nat) (at_ : Int) : Ex Lyr := match rFs l (2 * z) at_ with | .error x => .error x | .ok (Z, a) => dlZB l L o zb W B Z a
def dlB (l : List UInt8) (L : Ly) (o : Sh) (b z zb : Nat) (W : List Nat) (at_ : Int) : Ex Lyr := match rFs l b at_ with | .error x => .error x | .ok (B, a) => dlZ l L o z zb W B a
def dlLists (l : List UInt8) (L : Ly) (o : Sh) (w b z zb : Nat) (at_ : Int) : Ex Lyr := match rFs l w at_ with | .error x => .error x | .ok (W, a) => dlB l L o b z zb W a
def wsum (L : Ly) (s : Sh) : Int := (lensV L s).1 + (lensV L s).2.1 + 2 * (lensV L s).2.2.1 + 2 * (lensV L s).2.2.2
def dlOut (l : List UInt8) (L : Ly) (Ss : List Sh) (i : Nat) (sum at0 at_ : Int) : Ex Lyr :=
 if (outV L (Ss.getD i zSh)).2 ≠ 0 then .error ((outV L (Ss.getD i zSh)).2, at0) else
 if L.k = 5 ∧ ((Ss.length : Int) ≤ L.fr ∨ Ss.getD L.fr.toNat zSh ≠ Ss.getD i zSh) then .error (66, at0) else
 if 65536 < sum + wsum L (Ss.getD i zSh) then .error (65, at0) else
 dlLists l L (outV L (Ss.getD i zSh)).1 (lensV L (Ss.getD i zSh)).1.toNat (lensV L (Ss.getD i zSh)).2.1.toNat (lensV L (Ss.getD i zSh)).2.2.1.toNat (lensV L (Ss.getD i zSh)).2.2.2.toNat at_
def dlA (l : List UInt8) (k : Int) (v : List Int) (Ss : List Sh) (i : Nat) (sum at0 at_ : Int) : Ex Lyr :=
 if k = 4 ∨ k = 8 then match rF l at_ with | .error x => .error x | .ok (u, a) => dlOut l (mkL k v u) Ss i sum at0 a else dlOut l (mkL k v 0) Ss i sum at0 at_
def dlV (l : List UInt8) (k : Int) (Ss : List Sh) (i : Nat) (sum at0 : Int) : List Nat → List Int → Int → Ex Lyr
 | [], v, at_ => dlA l k v Ss i sum at0 at_
 | j :: r, v, at_ => match rU l at_ with | .error x => .error x | .ok (n, a) => dlV l k Ss i sum at0 r (v.set j n) a
def dnLy (l : List UInt8) (Ss : List Sh) (i : Nat) (sum at0 : Int) : Ex Lyr :=
 match rU l at0 with | .error x => .error x | .ok (k, a) => dlV l k Ss i sum at0 (fidx k) v0 a
def dnGo (l : List UInt8) (s : Sh) : Nat → List Lx → List Sh → Int → Int → Ex Nx
 | 0, xs, Ss, sum, at_ => dnN l s xs (sizeV (Ss.getD xs.length zSh)).1 at_
 | k + 1, xs, Ss, sum, at_ => match dnLy l Ss xs.length sum at_ with | .error x => .error x | .ok (x, o, a) => dnGo l s k (xs ++ [x]) (Ss ++ [o]) (sum + wtsV x) a
def dnK (l : List UInt8) (s : Sh) (at_ : Int) : Ex Nx :=
 match rU l at_ with | .error x => .error x | .ok (k, a) => if 64 < k then .error (65, at_) else dnGo l s k.toNat [] [s] 0 a
def dnS3 (l : List UInt8) (s : Sh) (at_ : Int) : Ex Nx := if (sizeV s).2 ≠ 0 then .error ((sizeV s).2, 5) else dnK l s at_
def dnS2 (l : List UInt8) (c h at_ : Int) : Ex Nx := match rU l at_ with | .error x => .error x | .ok (w, a) => dnS3 l ⟨c, h, w⟩ a
def dnS1 (l : List UInt8) (c at_ : Int) : Ex Nx := match rU l at_ with | .error x => .error x | .ok (h, a) => dnS2 l c h a
def dnS (l : List UInt8) : Ex Nx := match rU l 5 with | .error x => .error x | .ok (c, a) => dnS1 l c a
def decNetV (l : List UInt8) : Ex Nx := match hdV [65, 77, 66, 78] l with | some x => .error x | none => dnS l
section
variable {l : List UInt8} {s : Sh} {xs : List Lx} {Ss : List Sh} {x : Int × Int} {at_ a b v at0 sum width : Int} {n k i : Nat} {N : List ByteArray} {t : ByteArray} {L : Ly}
theorem decNetV_h (h : hdV [65, 77, 66, 78] l = some x) : decNetV l = .error x := by unfold decNetV; rw [h]
theorem decNetV_0 (h : hdV [65, 77, 66, 78] l = none) : decNetV l = dnS l := by unfold decNetV; rw [h]
theorem dnS_e (h : rU l 5 = .error x) : dnS l = .error x := by unfold dnS; rw [h]
theorem dnS_0 (h : rU l 5 = .ok (v, a)) : dnS l = dnS1 l v a := by unfold dnS; rw [h]
theorem dnS1_e {c : Int} (h : rU l at_ = .error x) : dnS1 l c at_ = .error x := by unfold dnS1; rw [h]
theorem dnS1_0 {c : Int} (h : rU l at_ = .ok (v, a)) : dnS1 l c at_ = dnS2 l c v a := by unfold dnS1; rw [h]
theorem dnS2_e {c d : Int} (h : rU l at_ = .error x) : dnS2 l c d at_ = .error x := by unfold dnS2; rw [h]
theorem dnS2_0 {c d : Int} (h : rU l at_ = .ok (v, a)) : dnS2 l c d at_ = dnS3 l ⟨c, d, v⟩ a := by unfold dnS2; rw [h]
theorem dnS3_b (h : (sizeV s).2 ≠ 0) : dnS3 l s at_ = .error ((sizeV s).2, 5) := if_pos h
theorem dnS3_0 (h : ¬ (sizeV s).2 ≠ 0) : dnS3 l s at_ = dnK l s at_ := if_neg h
theorem dnK_e (h : rU l at_ = .error x) : dnK l s at_ = .error x := by unfold dnK; rw [h]
theorem dnK_b (h : rU l at_ = .ok (v, a)) (hb : 64 < v) : dnK l s at_ = .error (65, at_) := by unfold dnK; rw [h]; exact if_pos hb
theorem dnK_0 (h : rU l at_ = .ok ((k : Int), a)) (hb : ¬ 64 < (k : Int)) : dnK l s at_ = dnGo l s k [] [s] 0 a := by unfold dnK; rw [h]; refine (if_neg hb).trans ?_; rw [Int.toNat_natCast]
theorem dnGo_e (hn : n = k + 1) (h : dnLy l Ss xs.length sum at_ = .error x) : dnGo l s n xs Ss sum at_ = .error x := by subst hn; unfold dnGo; rw [h]
theorem dnGo_s {y : Lx} {o : Sh} (hn : n = k + 1) (h : dnLy l Ss xs.length sum at_ = .ok (y, o, a)) : dnGo l s n xs Ss sum at_ = dnGo l s k (xs ++ [y]) (Ss ++ [o]) (sum + wtsV y) a := by
 subst hn
 show (match dnLy l Ss xs.length sum at_ with | .error x => Except.error x | .ok (x, o, a) => dnGo l s k (xs ++ [x]) (Ss ++ [o]) (sum + wtsV x) a) = _
 rw [h]
theorem dnN_e (h : rU l at_ = .error x) : dnN l s xs width at_ = .error x := by unfold dnN; rw [h]
theorem dnN_b (h : rU l at_ = .ok (v, a)) (hb : v ≠ 0 ∧ v ≠ width) : dnN l s xs width at_ = .error (63, at_) := by unfold dnN; rw [h]; exact if_pos hb
theorem dnN_0 (h : rU l at_ = .ok ((n : Int), a)) (hb : ¬ ((n : Int) ≠ 0 ∧ (n : Int) ≠ width)) : dnN l s xs width at_ = dnNs l s xs n [] a := by unfold dnN; rw [h]; refine (if_neg hb).trans ?_; rw [Int.toNat_natCast]
theorem dnNs_e (hn : n = k + 1) (h : rT l at_ = .error x) : dnNs l s xs n N at_ = .error x := by subst hn; unfold dnNs; rw [h]
theorem dnNs_b (hn : n = k + 1) (h : rT l at_ = .ok (t, a)) (hb : nameV t = false ∨ t ∈ N) : dnNs l s xs n N at_ = .error (67, at_) := by subst hn; unfold dnNs; rw [h]; exact if_pos hb
theorem dnNs_s (hn : n = k + 1) (h : rT l at_ = .ok (t, a)) (hb : ¬ (nameV t = false ∨ t ∈ N)) : dnNs l s xs n N at_ = dnNs l s xs k (N ++ [t]) a := by
 subst hn
 show (match rT l at_ with
  | .error x => Except.error x
  | .ok (t, a) => if nameV t = false ∨ t ∈ N then .error (67, at_) else dnNs l s xs k (N ++ [t]) a) = _
 rw [h]; exact if_neg hb
theorem dnTail_t {q : Nx} (h : tlV l at_ = some x) : dnTail l q at_ = .error x := by unfold dnTail; rw [h]
theorem dnTail_0 {q : Nx} (h : tlV l at_ = none) : dnTail l q at_ = .ok q := by unfold dnTail; rw [h]
theorem dnLy_e (h : rU l at0 = .error x) : dnLy l Ss i sum at0 = .error x := by unfold dnLy; rw [h]
theorem dnLy_0 (h : rU l at0 = .ok (v, a)) : dnLy l Ss i sum at0 = dlV l v Ss i sum at0 (fidx v) v0 a := by unfold dnLy; rw [h]
theorem dlV_0 {w : List Int} {k : Int} : dlV l k Ss i sum at0 [] w at_ = dlA l k w Ss i sum at0 at_ := rfl
theorem dlV_e {w : List Int} {k : Int} {j : Nat} {r J : List Nat} (hJ : J = j :: r) (h : rU l at_ = .error x) : dlV l k Ss i sum at0 J w at_ = .error x := by subst hJ; unfold dlV; rw [h]
theorem dlV_s {w : List Int} {k : Int} {j : Nat} {r J : List Nat} (hJ : J = j :: r) (h : rU l at_ = .ok (v, a)) : dlV l k Ss i sum at0 J w at_ = dlV l k Ss i sum at0 r (w.set j v) a := by
 subst hJ
 show (match rU l at_ with | .error x => Except.error x | .ok (n, a) => dlV l k Ss i sum at0 r (w.set j n) a) = _
 rw [h]
theorem dlA_e {w : List Int} {k : Int} (hk : k = 4 ∨ k = 8) (h : rF l at_ = .error x) : dlA l k w Ss i sum at0 at_ = .error x := by unfold dlA; rw [if_pos hk, h]
theorem dlA_1 {w : List Int} {k : Int} {u : Nat} (hk : k = 4 ∨ k = 8) (h : rF l at_ = .ok (u, a)) : dlA l k w Ss i sum at0 at_ = dlOut l (mkL k w u) Ss i sum at0 a := by unfold dlA; rw [if_pos hk, h]
theorem dlA_0 {w : List Int} {k : Int} (hk : ¬ (k = 4 ∨ k = 8)) : dlA l k w Ss i sum at0 at_ = dlOut l (mkL k w 0) Ss i sum at0 at_ := by unfold dlA; rw [if_neg hk]
theorem dlOut_b (h : (outV L (Ss.getD i zSh)).2 ≠ 0) : dlOut l L Ss i sum at0 at_ = .error ((outV L (Ss.getD i zSh)).2, at0) := by unfold dlOut; rw [if_pos h]
theorem dlOut_f (h : ¬ (outV L (Ss.getD i zSh)).2 ≠ 0) (h2 : L.k = 5 ∧ ((Ss.length : Int) ≤ L.fr ∨ Ss.getD L.fr.toNat zSh ≠ Ss.getD i zSh)) : dlOut l L Ss i sum at0 at_ = .error (66, at0) := by unfold dlOut; rw [if_neg h, if_pos h2]
theorem dlOut_z (h : ¬ (outV L (Ss.getD i zSh)).2 ≠ 0) (h2 : ¬ (L.k = 5 ∧ ((Ss.length : Int) ≤ L.fr ∨ Ss.getD L.fr.toNat zSh ≠ Ss.getD i zSh))) (h3 : 65536 < sum + wsum L (Ss.getD i zSh)) : dlOut l L Ss i sum at0 at_ = .error (65, at0) := by unfold dlOut; rw [if_neg h, if_neg h2, if_pos h3]
theorem dlOut_0 (h : ¬ (outV L (Ss.getD i zSh)).2 ≠ 0) (h2 : ¬ (L.k = 5 ∧ ((Ss.length : Int) ≤ L.fr ∨ Ss.getD L.fr.toNat zSh ≠ Ss.getD i zSh))) (h3 : ¬ 65536 < sum + wsum L (Ss.getD i zSh)) : dlOut l L Ss i sum at0 at_ =
 dlLists l L (outV L (Ss.getD i zSh)).1 (lensV L (Ss.getD i zSh)).1.toNat (lensV L (Ss.getD i zSh)).2.1.toNat (lensV L (Ss.getD i zSh)).2.2.1.toNat (lensV L (Ss.getD i zSh)).2.2.2.toNat at_ := by unfold dlOut; rw [if_neg h, if_neg h2, if_neg h3]
variable {o : Sh} {w c z zb : Nat} {W B Z ZB : List Nat} {a2 a3 a4 : Int}
theorem dlL_1 (h : rFs l w at_ = .error x) : dlLists l L o w c z zb at_ = .error x := by unfold dlLists; rw [h]
theorem dlL_0 (h : rFs l w at_ = .ok (W, a)) : dlLists l L o w c z zb at_ = dlB l L o c z zb W a := by unfold dlLists; rw [h]
theorem dlB_1 (h : rFs l c at_ = .error x) : dlB l L o c z zb W at_ = .error x := by unfold dlB; rw [h]
theorem dlB_0 (h : rFs l c at_ = .ok (B, a)) : dlB l L o c z zb W at_ = dlZ l L o z zb W B a := by unfold dlB; rw [h]
theorem dlZ_1 (h : rFs l (2 * z) at_ = .error x) : dlZ l L o z zb W B at_ = .error x := by unfold dlZ; rw [h]
theorem dlZ_0 (h : rFs l (2 * z) at_ = .ok (Z, a)) : dlZ l L o z zb W B at_ = dlZB l L o zb W B Z a := by unfold dlZ; rw [h]
theorem dlZB_1 (h : rFs l (2 * zb) at_ = .error x) : dlZB l L o zb W B Z at_ = .error x := by unfold dlZB; rw [h]
theorem dlZB_0 (h : rFs l (2 * zb) at_ = .ok (ZB, a)) : dlZB l L o zb W B Z at_ = .ok (⟨L, W, B, prs Z, prs ZB⟩, o, a) := by unfold dlZB; rw [h]
end
theorem prs_len : ∀ (n : Nat) (l : List Nat), l.length = 2 * n → (prs l).length = n
 | 0, [], _ => rfl
 | n + 1, a :: b :: r, h => by
  show (prs r).length + 1 = n + 1
  rw [prs_len n r (by simp at h; omega)]
 | 0, a :: r, h => by simp at h
 | n + 1, [], h => absurd h (by simp)
 | n + 1, [a], h => absurd h (by simp; omega)
theorem prs_snoc : ∀ (n : Nat) (l : List Nat) (a b : Nat), l.length = 2 * n → prs (l ++ [a, b]) = prs l ++ [(a, b)]
 | 0, [], a, b, _ => rfl
 | n + 1, c :: d :: r, a, b, h => by
  show (c, d) :: prs (r ++ [a, b]) = (c, d) :: (prs r ++ [(a, b)])
  rw [prs_snoc n r a b (by simp at h; omega)]
 | 0, c :: r, a, b, h => by simp at h
 | n + 1, [], a, b, h => absurd h (by simp)
 | n + 1, [c], a, b, h => absurd h (by simp; omega)
theorem prs_mem : ∀ (l : List Nat), (∀ u ∈ l, u < 18446744073709551616) → ∀ z ∈ prs l, z.1 < 18446744073709551616 ∧ z.2 < 18446744073709551616
 | [], _, z, hz => by cases hz
 | [a], _, z, hz => by cases hz
 | a :: b :: r, h, z, hz => by
  rcases List.mem_cons.1 hz with rfl | hz
  ·exact ⟨h _ (.head _), h _ (.tail _ (.head _))⟩
  exact prs_mem r (fun u hu => h u (.tail _ (.tail _ hu))) z hz
theorem wsum_bd {L : Ly} {s : Sh} (h : ¬ (outV L s).2 ≠ 0) : 0 ≤ (lensV L s).1 ∧ (lensV L s).1 ≤ 16777216 ∧ (0 ≤ (lensV L s).2.1 ∧ (lensV L s).2.1 ≤ 256) ∧ (0 ≤ (lensV L s).2.2.1 ∧ (lensV L s).2.2.1 ≤ 65536) ∧ (0 ≤ (lensV L s).2.2.2 ∧ (lensV L s).2.2.2 ≤ 256) := by
 obtain ⟨hf, hsz, _⟩ := outV_ok (by simpa using h : (outV L s).2 = 0)
 obtain ⟨_, _, hfo⟩ := fv_zero hf
 have hgs := sz_good hsz
 have hout := fld_out hfo
 unfold lensV
 have hm1 := mul_bd0 (a := L.out) (b := s.c * s.h * s.w) (A := 256) (B := 256) (by omega) (by omega) (by omega) (by omega)
 split
 ·dsimp only; omega
 split
 ·rename_i h2
  have hwn := fld_win hfo (.inl h2)
  have hm1 := mul_bd0 (a := L.out) (b := s.c) (A := 256) (B := 256) (by omega) (by omega) (by omega) (by omega)
  have hm2 := mul_bd0 (a := L.out * s.c) (b := L.kh) (A := 65536) (B := 16) (by omega) (by omega) (by omega) (by omega)
  have hm3 := mul_bd0 (a := L.out * s.c * L.kh) (b := L.kw) (A := 1048576) (B := 16) (by omega) (by omega) (by omega) (by omega)
  dsimp only; omega
 split
 ·dsimp only; omega
 split
 ·dsimp only; omega
 dsimp only; omega
theorem rT_ok {l : List UInt8} {at_ a : Int} {t : ByteArray} (h : rT l at_ = .ok (t, a)) (h0 : 0 ≤ at_ ∧ at_ ≤ l.length) : 0 ≤ a ∧ a ≤ l.length ∧ t.size ≤ l.length := by
 unfold rT at h
 split at h
 ·rename_i he
  injection h with h
  obtain ⟨rfl, rfl⟩ := Prod.mk.inj h
  unfold readTextV at he ⊢
  split at he
  ·exact absurd he (by decide)
  rename_i h1
  rw [if_neg h1]
  simp only at he ⊢
  split at he
  ·rename_i h2; exact absurd he h2
  rename_i h2
  have hok := readUV_ok (by simpa using h2 : (readUV l at_).2.2 = 0)
  rw [if_neg h2]
  split at he
  ·exact absurd he (by decide)
  rename_i h3
  rw [if_neg h3]
  split at he
  ·exact absurd he (by decide)
  rename_i h4
  rw [if_neg h4]
  split at he
  ·exact absurd he (by decide)
  rename_i h5
  rw [if_neg h5]
  refine ⟨by dsimp only; omega, by dsimp only; omega, ?_⟩
  dsimp only
  unfold textB
  have : (strB ((l.drop (readUV l at_).2.1.toNat).take (readUV l at_).1.toNat)).size = ((l.drop (readUV l at_).2.1.toNat).take (readUV l at_).1.toNat).length := by
   simp [strB, ByteArray.size]
  rw [this, List.length_take, List.length_drop]
  omega
 cases h
end Go.Proofs.YtnomlloaahoceaaGreatDoor

/- Contracts: a question laid with marks, its bits, what stands; ModelProps. No condition. -/
namespace Go.Proofs.YtnomlloaahoceaaGreatDoor
open Go.RowKit
set_option linter.unusedVariables false
set_option linter.unusedSimpArgs false
structure PrL (w : World) (ok : Nat → Prop) (C G M : Sv) (SG SM : List Sv) (mg mm : Sv) (p : Px) : Prop where
 rC : Rd w ok C.1 (p.C.length + 9) 1 (laidC p.C)
 nC : C.2.1 = p.C.length
 cC : p.C.length + 9 ≤ C.2.2
 rG : LdM w ok G.1 G.2.2 SG p.G mg
 nG : G.2.1 = p.G.length
 rM : LdM w ok M.1 M.2.2 SM p.M mm
 nM : M.2.1 = p.M.length
theorem PrL.keep {w w0 : World} {B : Nat} {L : List It} (hS : St B w0 w L) {i : Nat} {ok : Nat → Prop} {wk : World} (hi : L[i]? = some (.keep ok wk)) {C G M : Sv} {SG SM : List Sv} {mg mm : Sv} {p : Px} (h : PrL wk ok C G M SG SM mg mm p) : PrL w ok C G M SG SM mg mm p :=
 ⟨hS.keepRd hi h.rC, h.nC, h.cC, LdM.keep hS hi h.rG, h.nG, LdM.keep hS hi h.rM, h.nM⟩
theorem PrU.keep {w w0 : World} {B : Nat} {L : List It} (hS : St B w0 w L) {i : Nat} {ok : Nat → Prop} {wk : World} (hi : L[i]? = some (.keep ok wk)) {C G M : Sv} {SG SM : List Sv} {p : Px} (h : PrU wk ok C G M SG SM p) : PrU w ok C G M SG SM p :=
 ⟨hS.keepRd hi h.rC, h.nC, h.lC, h.fC, LsU.keep hS hi h.rG, h.nG, h.lG, LsU.keep hS hi h.rM, h.nM, h.lM, h.iT, h.iK, h.iD, h.iS⟩
theorem PrM.old {w w' : World} {ok : Nat → Prop} {C G M : Sv} {SG SM : List Sv} {p : Px} {L0 : List It} (h : PrM w ok C G M SG SM p) (hS : St w.heap.size w w' L0) : PrM w' ok C G M SG SM p :=
 ⟨h.rC.old hS, h.nC, h.lC, h.fC, h.rG.old hS, h.nG, h.lG, h.rM.old hS, h.nM, h.lM, h.iT, h.iK, h.iD, h.iS⟩
theorem PrU.old {w w' : World} {ok : Nat → Prop} {C G M : Sv} {SG SM : List Sv} {p : Px} {L0 : List It} (h : PrU w ok C G M SG SM p) (hS : St w.heap.size w w' L0) : PrU w' ok C G M SG SM p :=
 ⟨h.rC.old hS, h.nC, h.lC, h.fC, h.rG.old hS, h.nG, h.lG, h.rM.old hS, h.nM, h.lM, h.iT, h.iK, h.iD, h.iS⟩
theorem LdM.old {w w' : World} {ok : Nat → Prop} {A : Option Addr} {c : Nat} {S : List Sv} {ls : List (List Nat)} {mk : Sv} {L0 : List It} (h : LdM w ok A c S ls mk) (hS : St w.heap.size w w' L0) : LdM w' ok A c S ls mk :=
 ⟨h.rS.old (by decide) hS, h.cp, h.len, fun j x l h1 h2 => ⟨(h.rd j x l h1 h2).1.old (by decide) hS, (h.rd j x l h1 h2).2⟩, h.rm.old (by decide) hS, h.nm⟩
structure Px.small (p : Px) : Prop where
 C : p.C.length ≤ 17592186044416
 fC : ∀ u ∈ p.C, u < 18446744073709551616
 G : p.G.length ≤ 5864062014805
 fG : ∀ l ∈ p.G, l.length ≤ 17592186044416 ∧ ∀ u ∈ l, u < 18446744073709551616
 M : p.M.length ≤ 5864062014805
 fM : ∀ l ∈ p.M, l.length ≤ 17592186044416 ∧ ∀ u ∈ l, u < 18446744073709551616
 iT : i64 p.T
 iK : i64 p.K
 iD : i64 p.D
 iS : i64 p.S
end Go.Proofs.YtnomlloaahoceaaGreatDoor
