/- Contracts of functions that CodeNetBytes reaches, and words to say them. No condition. -/
import Derived.Test.YtnomlloaahoceaaGreatDoorZ05
import Derived.Lib.RuneCount
import Derived.Test.YtnomlloaahoceaaGreatDoorZ03
import Derived.Test.YtnomlloaahoceaaGreatDoorZ02
/- Contracts of texts. No condition. -/
namespace Go.Proofs.YtnomlloaahoceaaGreatDoor
open Go.RowKit
set_option linter.unusedVariables false
set_option linter.unusedSimpArgs false
def runesFrom (s : ByteArray) : Nat → Nat → Nat → Option Nat
 | 0, _, n => some n
 | f + 1, pos, n => if pos < s.size then (if (Utf8.decode s pos).1 = 65533 ∧ (Utf8.decode s pos).2 = 1 then none else runesFrom s f (pos + (Utf8.decode s pos).2) (n + 1)) else some n
def runesV (s : ByteArray) : Int × Bool := match runesFrom s (s.size + 1) 0 0 with
 | none => (0, false)
 | some n => (n, true)
theorem runesFrom_end {s : ByteArray} {f pos n : Nat} (h : s.size ≤ pos) : runesFrom s f pos n = some n := by
 cases f with
 | zero => rfl
 | succ f => rw [runesFrom, if_neg (by omega)]
theorem runesFrom_bad {s : ByteArray} {f pos n : Nat} (h : pos < s.size) (h1 : (Utf8.decode s pos).1 = 65533) (h2 : (Utf8.decode s pos).2 = 1) : runesFrom s (f + 1) pos n = none := by
 rw [runesFrom, if_pos h, if_pos ⟨h1, h2⟩]
theorem runesFrom_more {s : ByteArray} {f pos n : Nat} (h : pos < s.size) (h1 : ¬ ((Utf8.decode s pos).1 = 65533 ∧ (Utf8.decode s pos).2 = 1)) : runesFrom s (f + 1) pos n = runesFrom s f (pos + (Utf8.decode s pos).2) (n + 1) := by
 rw [runesFrom, if_pos h, if_neg h1]
theorem extract_get (s : ByteArray) (pos k : Nat) : (s.extract pos s.size).get! k = s.get! (pos + k) := by
 have e1 : (s.extract pos s.size).data = s.data.extract pos s.size := by simp
 have e2 : ∀ (a : ByteArray) (i : Nat), a.get! i = a.data[i]! := fun _ _ => rfl
 rw [e2, e2, e1]
 simp only [Array.getElem!_eq_getD, Array.getD_eq_getD_getElem?]
 congr 1
 rw [Array.getElem?_extract]
 have e3 : s.size = s.data.size := rfl
 by_cases h : k < min s.size s.data.size - pos
 ·rw [if_pos h]
 rw [if_neg h, Array.getElem?_eq_none (by omega)]
theorem decodeGo_at (s : ByteArray) (pos : Nat) (h : pos < s.size) : Lib.decodeGo (s.extract pos s.size) = Utf8.decode s pos := by
 have hs : (s.extract pos s.size).size = s.size - pos := by simp
 unfold Lib.decodeGo
 rw [if_neg (by omega)]
 have hc : ∀ k, decide (k < s.size - pos) = decide (pos + k < s.size) := fun k => by
  by_cases h : pos + k < s.size
  ·rw [decide_eq_true h, decide_eq_true (by omega)]
  rw [decide_eq_false h, decide_eq_false (by omega)]
 unfold Utf8.decode
 simp only [hs, extract_get, Nat.zero_add, hc]
theorem decode_fit (s : ByteArray) (pos : Nat) (h : pos < s.size) : pos + (Utf8.decode s pos).2 ≤ s.size := by
 simp only [Utf8.decode]
 repeat' split
 all_goals simp_all
 all_goals omega
theorem Runes_calls (s : ByteArray) (hs : s.size ≤ 4611686018427387904) (w : World) (hU : Tabs w) :
 Calls Tryz.prog 79 ⟨[.string s]⟩ w fun e w' => e = .returned (.tuple #[.int .i64 (runesV s).1, .bool (runesV s).2]) ∧ Below w.heap.size w w' := by
 refine gc_enter (N := 29) Tryz.func79 rfl rfl rfl [(0, _)] rfl ?_
 have hS := St.start w
 refine gc_seq fun K1 hK1 => gc_region (Zp rfl (Zp rfl (gl_nil (hK1 _ _ (gc_seq fun K2 hK2 => gc_region (Zp rfl (gl_nil (hK2 _ _ (gc_seq fun K3 hK3 => gc_seq fun K4 hK4 => gc_region (Zp rfl (gl_range hT hS rfl rfl rfl rfl rfl rfl fun g10 w10 hS => ?_)))))))))))
 refine gl_nil (hK4 _ _ (gc_block ?_))
 refine gc_loop (fun k a w' => ∃ (n pos g : Nat), Fr 29 a [(0, .string s), (4, .int .i64 n), (10, .pointer (some ⟨g, 0, none⟩))] ∧ n ≤ pos ∧ pos ≤ s.size ∧ s.size < k + pos ∧ runesFrom s k pos n = runesFrom s (s.size + 1) 0 0 ∧
  St w.heap.size w w' [.obj g (.stringIter s pos)]) (s.size + 1) ?_ ?_ ?_
 ·intro a ha; exact ⟨0, 0, _, ha.sub ⟨rfl, rfl, rfl, trivial⟩, by omega, by omega, by omega, rfl, hS⟩
 ·rintro a w ⟨n, pos, g, _, h1, h2, h3, _⟩; omega
 rintro f a w1 ⟨n, pos, g, hF, hn, hpos, hf, hr, hS⟩
 refine gc_of hF ?_
 refine gc_seq fun K5 hK5 => gc_region (gl_next 0 hS rfl rfl rfl rfl rfl rfl (fun p11 w11 hS => ?_) (fun p11 => ?_))
 ·have hw1 := Lib.decode_width_pos s pos p11
  refine Zp rfl (gl_nil (hK5 _ _ (gc_seq fun K6 hK6 => gc_cond_t rfl (gc_skip (hK6 _ _ (gc_block (gc_seq fun K7 hK7 => gc_region (Zp rfl (Zp rfl (Zp rfl (Zp rfl (gl_nil (hK7 _ _ (gc_seq fun K8 hK8 => gc_seq fun K9 hK9 => gc_region (Zp rfl (Zp rfl (gl_nil (hK9 _ _ (gc_cond rfl rfl (fun c16 => ?_) (fun c16 => ?_))))))))))))))))))))
  ·simp only [NN, reduceCtorEq] at c16
   refine gc_seq fun K10 hK10 => gc_region (Zp rfl (Zp rfl (gl_op rfl rfl rfl (op_str_l hT rfl rfl rfl rfl (by first | omega | (simp; omega)) (by first | omega | (simp; omega))) ?_)))
   refine gl_callf rfl rfl rfl rfl Tryz.func102 rfl rfl rfl (Decode_calls _ _ (hU.old hS)) ?_
   rintro _ w21 ⟨rfl, hb21⟩
   refine ⟨_, rfl, ?_⟩
   have hS := hS.grown hb21
   have hx : ((pos : Int)).toNat = pos := by omega
   rw [hx, decodeGo_at s pos p11]
   refine Zp rfl (Zp rfl (Zp rfl (Zp rfl (Zp rfl (gl_nil (hK10 _ _ (gc_seq fun K11 hK11 => gc_region (Zp rfl (Zp rfl (gl_nil (hK11 _ _ (gc_cond rfl rfl (fun c25 => ?_) (fun c25 => ?_)))))))))))))
   ·simp only [NN, reduceCtorEq] at c25
    refine gc_seq fun K12 hK12 => gc_region (Zp rfl (Zp rfl (gl_nil (hK12 _ _ (gc_ret ?_)))))
    simp only [XR]
    refine gk_ret2 rfl rfl rfl ?_
    have e1 : runesV s = (0, false) := by unfold runesV; rw [← hr, runesFrom_bad p11 (by omega) (by omega)]
    rw [e1]
    exact ⟨rfl, hS.below⟩
   simp only [NN, reduceCtorEq] at c25
   refine gc_skip (hK8 _ _ (gc_region (Zp rfl (Zi rfl (by omega) ?_))))
   refine Zp rfl (gl_nil ?_)
   intro a ha
   have hmore := runesFrom_more (f := f) (n := n) p11 (by omega)
   have hle : pos + (Utf8.decode s pos).2 ≤ s.size := decode_fit s pos p11
   exact ⟨n + 1, _, g, ha.sub ⟨rfl, rfl, rfl, trivial⟩, by omega, hle, by omega, by rw [← hr, hmore], hS⟩
  simp only [NN, reduceCtorEq] at c16
  refine gc_skip (hK8 _ _ (gc_region (Zp rfl (Zi rfl (by omega) ?_))))
  refine Zp rfl (gl_nil ?_)
  intro a ha
  have hmore := runesFrom_more (f := f) (n := n) p11 (by omega)
  have hle : pos + (Utf8.decode s pos).2 ≤ s.size := decode_fit s pos p11
  exact ⟨n + 1, _, g, ha.sub ⟨rfl, rfl, rfl, trivial⟩, by omega, hle, by omega, by rw [← hr, hmore], hS⟩
 refine Zp rfl (gl_nil (hK5 _ _ (gc_seq fun K13 hK13 => gc_cond_f rfl (gc_exit ?_))))
 refine hK3 _ _ (gc_seq fun K14 hK14 => gc_region (Zp rfl (Zp rfl (Zp rfl (gl_nil (hK14 _ _ (gc_ret (gk_ret2 rfl rfl rfl ?_))))))))
 have e1 : runesV s = ((n : Int), true) := by unfold runesV; rw [← hr, runesFrom_end p11]
 rw [e1]
 exact ⟨rfl, hS.below⟩
def textB (l : List UInt8) (p n : Nat) : ByteArray := strB ((l.drop p).take n)
def readTextV (l : List UInt8) (at_ most : Int) : ByteArray × Int × Int :=
 if at_ < 0 ∨ (l.length : Int) < at_ ∨ most < 0 then (⟨#[]⟩, 0, 1) else
 let r := readUV l at_
 if r.2.2 ≠ 0 then (⟨#[]⟩, 0, r.2.2) else
 if most < r.1 then (⟨#[]⟩, 0, 13) else
 if l.length - r.2.1 < r.1 then (⟨#[]⟩, 0, 10) else
 if (runesV (textB l r.2.1.toNat r.1.toNat)).2 = false then (⟨#[]⟩, 0, 14) else
 (textB l r.2.1.toNat r.1.toNat, r.2.1 + r.1, 0)
theorem rdGo_ok (l : List UInt8) (at_ : Nat) : ∀ k i v, v < 128 ^ i → i + k ≤ 9 → (rdGo l at_ k i v).2.2 = 0 → 0 ≤ (rdGo l at_ k i v).1 ∧ (rdGo l at_ k i v).1 < 9223372036854775808 ∧ (at_ + i : Nat) < (rdGo l at_ k i v).2.1 ∧ (rdGo l at_ k i v).2.1 ≤ l.length := by
 intro k
 induction k with
 | zero => intro i v _ _ h; simp [rdGo] at h
 | succ k ih =>
  intro i v hv hik h
  by_cases hl : l.length ≤ at_ + i
  ·rw [rdGo_short hl] at h; simp at h
  have hik2 : i + 1 + k ≤ 9 := by omega
  have hs := (or_step v ((l.getD (at_ + i) 0).toNat % 128) i (by omega) hv (by omega)).2
  have h9 : 128 ^ (i + 1) ≤ 128 ^ 9 := pow128_le (by omega)
  have h12 : (128 : Nat) ^ 9 = 9223372036854775808 := by decide
  by_cases hc : (l.getD (at_ + i) 0).toNat < 128
  ·by_cases h0 : (l.getD (at_ + i) 0).toNat = 0 ∧ 0 < i
   ·rw [rdGo_form (by omega) h0.1 h0.2] at h; simp at h
   rw [rdGo_end (by omega) hc h0]
   refine ⟨?_, ?_, ?_, ?_⟩ <;> first | omega | (dsimp only; omega)
  rw [rdGo_more (by omega) (by omega)] at h ⊢
  have := ih (i + 1) _ hs hik2 h
  generalize rdGo l at_ k (i + 1) _ = X at this ⊢
  exact ⟨this.1, this.2.1, by have := this.2.2.1; clear h9 h12 hs hv h; omega, this.2.2.2⟩
theorem readUV_ok {l : List UInt8} {at_ : Int} (h : (readUV l at_).2.2 = 0) : 0 ≤ at_ ∧ 0 ≤ (readUV l at_).1 ∧ (readUV l at_).1 < 9223372036854775808 ∧ at_ < (readUV l at_).2.1 ∧ (readUV l at_).2.1 ≤ l.length := by
 unfold readUV at h ⊢
 split at h
 ·simp at h
 rename_i hn
 rw [if_neg hn]
 have := rdGo_ok l at_.toNat 9 0 0 (by decide) (by omega) h
 refine ⟨by omega, this.1, this.2.1, by omega, this.2.2.2⟩
theorem ReadText_calls (A : Option Addr) (c : Nat) (l : List UInt8) (at_ most : Int) (w : World) {ok : Nat → Prop} (h1 : RdE w ok uB A l) (hb : l.length ≤ 1152921504606846976) (hc : l.length ≤ c) (hU : Tabs w) :
 Calls Tryz.prog 53 ⟨[.slice A l.length c, .int .i64 at_, .int .i64 most]⟩ w fun e w' => e = .returned (.tuple #[.string (readTextV l at_ most).1, .int .i64 (readTextV l at_ most).2.1, .int .i64 (readTextV l at_ most).2.2]) ∧ Below w.heap.size w w' := by
 refine gc_enter (N := 64) Tryz.func53 rfl rfl rfl [(0, _), (1, _), (2, _)] rfl ?_
 have hS := St.start w
 have hok := readUV_ok (l := l) (at_ := at_)
 refine gc_seq fun K1 hK1 => gc_region (Zp rfl (Zp rfl (Zp rfl (gl_nil (hK1 _ _ (gc_seq fun K2 hK2 => gc_seq fun K3 hK3 => gc_region (Zp rfl (Zp rfl (Zp rfl (gl_split (t := 17) rfl (fun c17 => ?_) (fun c17 => ?_)))))))))))
 ·simp only [NN, reduceCtorEq] at c17
  refine Zs rfl (Zs rfl (Zs rfl (Zs rfl (Zp rfl (Zp rfl (Zs rfl (Zs rfl (Zp rfl (gl_nil (hK3 _ _ (gc_cond_t rfl (gc_seq fun K4 hK4 => gc_region (Zp rfl (Zp rfl (Zp rfl (gl_nil (hK4 _ _ (gc_ret ?_))))))))))))))))))
  simp only [XR]
  refine gk_ret3 rfl rfl rfl rfl ?_
  exact ⟨by unfold readTextV; rw [if_pos (by omega)], hS.below⟩
 simp only [NN, reduceCtorEq] at c17
 refine Zu rfl (Zp rfl (Zu rfl (Zp rfl (Zu rfl (Zp rfl (Zu rfl (Zp rfl (Zp rfl (Zp rfl (gl_split (t := 23) rfl (fun c23 => ?_) (fun c23 => ?_)))))))))))
 ·simp only [NN, reduceCtorEq] at c23
  refine Zs rfl (Zs rfl (Zp rfl (gl_nil (hK3 _ _ (gc_cond_t rfl (gc_seq fun K5 hK5 => gc_region (Zp rfl (Zp rfl (Zp rfl (gl_nil (hK5 _ _ (gc_ret ?_))))))))))))
  simp only [XR]
  refine gk_ret3 rfl rfl rfl rfl ?_
  exact ⟨by unfold readTextV; rw [if_pos (by omega)], hS.below⟩
 simp only [NN, reduceCtorEq] at c23
 refine Zu rfl (Zp rfl (Zu rfl (Zp rfl (Zp rfl (gl_nil (hK3 _ _ (gc_cond rfl rfl (fun c26 => ?_) (fun c26 => ?_))))))))
 ·simp only [NN, reduceCtorEq] at c26
  refine gc_seq fun K6 hK6 => gc_region (Zp rfl (Zp rfl (Zp rfl (gl_nil (hK6 _ _ (gc_ret ?_))))))
  simp only [XR]
  refine gk_ret3 rfl rfl rfl rfl ?_
  exact ⟨by unfold readTextV; rw [if_pos (by omega)], hS.below⟩
 simp only [NN, reduceCtorEq] at c26
 refine gc_skip (hK2 _ _ (gc_seq fun K7 hK7 => gc_region (Zp rfl (Zp rfl (gl_callf rfl rfl rfl rfl Tryz.func48 rfl rfl rfl (ReadUint_calls A c l at_ _ (h1.old hS) (by omega)) ?_)))))
 rintro _ _ ⟨rfl, n30, rfl⟩
 refine ⟨_, rfl, ?_⟩
 have hS := hS.dr n30
 refine Zp rfl (Zp rfl (Zp rfl (Zp rfl (Zp rfl (Zp rfl (Zp rfl (gl_nil (hK7 _ _ (gc_seq fun K8 hK8 => gc_seq fun K9 hK9 => gc_region (Zp rfl (Zp rfl (gl_nil (hK9 _ _ (gc_cond rfl rfl (fun c35 => ?_) (fun c35 => ?_)))))))))))))))
 ·simp only [NN, reduceCtorEq] at c35
  refine gc_seq fun K10 hK10 => gc_region (Zp rfl (Zp rfl (Zp rfl (Zp rfl (gl_nil (hK10 _ _ (gc_ret ?_)))))))
  simp only [XR]
  refine gk_ret3 rfl rfl rfl rfl ?_
  have e1 : readTextV l at_ most = (⟨#[]⟩, 0, (readUV l at_).2.2) := by unfold readTextV; rw [if_neg (by omega)]; simp only; rw [if_pos (by simpa using c35)]
  rw [e1]
  exact ⟨rfl, hS.below⟩
 simp only [NN, reduceCtorEq] at c35
 refine gc_skip (hK8 _ _ (gc_seq fun K11 hK11 => gc_seq fun K12 hK12 => gc_region ?_))
 have hok := hok (by simpa using c35)
 have hne : ¬ (readUV l at_).2.2 ≠ 0 := by simpa using c35
 refine Zp rfl (Zp rfl (Zp rfl (gl_nil (hK12 _ _ (gc_cond rfl rfl (fun c39 => ?_) (fun c39 => ?_))))))
 ·simp only [NN, reduceCtorEq] at c39
  refine gc_seq fun K13 hK13 => gc_region (Zp rfl (Zp rfl (Zp rfl (gl_nil (hK13 _ _ (gc_ret ?_))))))
  simp only [XR]
  refine gk_ret3 rfl rfl rfl rfl ?_
  have e1 : readTextV l at_ most = (⟨#[]⟩, 0, 13) := by unfold readTextV; rw [if_neg (by omega)]; simp only; rw [if_neg hne, if_pos c39]
  rw [e1]
  exact ⟨rfl, hS.below⟩
 simp only [NN, reduceCtorEq] at c39
 refine gc_skip (hK11 _ _ (gc_seq fun K14 hK14 => gc_seq fun K15 hK15 => gc_region (Zp rfl (Zp rfl (Zp rfl (Zi rfl (by omega) ?_))))))
 refine Zp rfl (Zp rfl (gl_nil (hK15 _ _ (gc_cond rfl rfl (fun c45 => ?_) (fun c45 => ?_)))))
 ·simp only [NN, reduceCtorEq] at c45
  refine gc_seq fun K16 hK16 => gc_region (Zp rfl (Zp rfl (Zp rfl (gl_nil (hK16 _ _ (gc_ret ?_))))))
  simp only [XR]
  refine gk_ret3 rfl rfl rfl rfl ?_
  have e1 : readTextV l at_ most = (⟨#[]⟩, 0, 10) := by unfold readTextV; rw [if_neg (by omega)]; simp only; rw [if_neg hne, if_neg (by omega), if_pos c45]
  rw [e1]
  exact ⟨rfl, hS.below⟩
 simp only [NN, reduceCtorEq] at c45
 refine gc_skip (hK14 _ _ (gc_seq fun K17 hK17 => gc_region (Zp rfl (Zp rfl (Zp rfl (Zp rfl (Zi rfl (by omega) ?_)))))))
 refine gl_op rfl rfl rfl (op_slice_lh hT el5 rfl rfl rfl rfl rfl (by first | omega | (simp; omega)) (by first | omega | (simp; omega)) (by first | omega | (simp; omega))) ?_
 refine gl_op rfl rfl rfl (op_b2s hT (RdE.take (RdE.drop (h1.old hS) (k := (readUV l at_).2.1.toNat) (cap := c) (by omega) hc) (readUV l at_).1.toNat) rfl rfl rfl rfl rfl (by simp; omega)) ?_
 refine Zp rfl (gl_nil (hK17 _ _ (gc_seq fun K18 hK18 => gc_seq fun K19 hK19 => gc_region (Zp rfl (gl_callf rfl rfl rfl rfl Tryz.func79 rfl rfl rfl (Runes_calls _ (by rw [strB_size]; simp; omega) _ (hU.old hS)) ?_)))))
 rintro _ w55 ⟨rfl, hb55⟩
 refine ⟨_, rfl, ?_⟩
 have hS := hS.grown hb55
 refine Zp rfl (Zp rfl (Zp rfl (Zp rfl (Zp rfl (gl_nil (hK19 _ _ (gc_seq fun K20 hK20 => gc_region (Zp rfl (Zp rfl (gl_nil (hK20 _ _ (gc_cond rfl rfl (fun c59 => ?_) (fun c59 => ?_)))))))))))))
 ·simp only [NN, reduceCtorEq] at c59
  refine gc_seq fun K21 hK21 => gc_region (Zp rfl (Zp rfl (Zp rfl (gl_nil (hK21 _ _ (gc_ret ?_))))))
  simp only [XR]
  refine gk_ret3 rfl rfl rfl rfl ?_
  have e1 : readTextV l at_ most = (⟨#[]⟩, 0, 14) := by unfold readTextV; rw [if_neg (by omega)]; simp only; rw [if_neg hne, if_neg (by omega), if_neg (by omega), if_pos (by simpa [textB] using c59)]
  rw [e1]
  exact ⟨rfl, hS.below⟩
 simp only [NN, reduceCtorEq] at c59
 refine gc_skip (hK18 _ _ (gc_seq fun K22 hK22 => gc_region (Zp rfl (Zp rfl (Zp rfl (Zi rfl (by omega) ?_))))))
 refine Zp rfl (Zp rfl (Zp rfl (gl_nil (hK22 _ _ (gc_ret (gk_ret3 rfl rfl rfl rfl ?_))))))
 have e1 : readTextV l at_ most = (textB l (readUV l at_).2.1.toNat (readUV l at_).1.toNat, (readUV l at_).2.1 + (readUV l at_).1, 0) := by unfold readTextV; rw [if_neg (by omega)]; simp only; rw [if_neg hne, if_neg (by omega), if_neg (by omega), if_neg (by simpa [textB] using c59)]
 rw [e1]
 exact ⟨rfl, hS.below⟩
end Go.Proofs.YtnomlloaahoceaaGreatDoor

/- The contract of told. No condition. -/
namespace Go.Proofs.YtnomlloaahoceaaGreatDoor
open Go.RowKit
set_option linter.unusedVariables false
set_option linter.unusedSimpArgs false
end Go.Proofs.YtnomlloaahoceaaGreatDoor

/- The walk of WireNumbers. No condition. -/
namespace Go.Proofs.YtnomlloaahoceaaGreatDoor
open Go.RowKit
set_option linter.unusedVariables false
set_option linter.unusedSimpArgs false
theorem RdE.left {α : Type} {w : World} {ok : Nat → Prop} {enc : α → Value} {A : Option Addr} {l1 l2 : List α} (h : RdE w ok enc A (l1 ++ l2)) : RdE w ok enc A l1 := by
 have := h.take l1.length
 rwa [List.take_left] at this
end Go.Proofs.YtnomlloaahoceaaGreatDoor

/- Plain words for chapter 1: code points. No program in sight; no condition. -/
namespace Go.Proofs.YtnomlloaahoceaaGreatDoor
set_option linter.unusedVariables false
set_option linter.unusedSimpArgs false
def pointB (p : Int) : List UInt8 :=
 if p < 0 ∨ 1114111 < p ∨ (55296 ≤ p ∧ p ≤ 57343) then []
 else if p < 128 then [toB p]
 else if p < 2048 then [toB (192 + p / 64), toB (128 + p % 64)]
 else if p < 65536 then [toB (224 + p / 4096), toB (128 + p / 64 % 64), toB (128 + p % 64)]
 else [toB (240 + p / 262144), toB (128 + p / 4096 % 64), toB (128 + p / 64 % 64), toB (128 + p % 64)]
def bN (s : ByteArray) (i : Nat) : Nat := (s.data.toList.getD i 0).toNat
theorem bN_lt (s : ByteArray) (i : Nat) : bN s i < 256 := (s.data.toList.getD i 0).toNat_lt
theorem bN_get (s : ByteArray) (i : Nat) : (s.get! i).toNat = bN s i := by
 unfold bN
 have e2 : s.get! i = s.data[i]! := rfl
 rw [e2, Array.getElem!_eq_getD, Array.getD_eq_getD_getElem?, List.getD_eq_getElem?_getD, Array.getElem?_toList]
 rfl
def lowV (s : ByteArray) (i : Nat) : Int := if s.size ≤ i ∨ bN s i < 128 ∨ 191 < bN s i then -1099511627776 else bN s i - 128
def atP (s : ByteArray) (i : Nat) : Int × Nat :=
 let c : Int := bN s i
 if 240 ≤ c then ((c - 240) * 262144 + lowV s (i + 1) * 4096 + lowV s (i + 2) * 64 + lowV s (i + 3), 4)
 else if 224 ≤ c then ((c - 224) * 4096 + lowV s (i + 1) * 64 + lowV s (i + 2), 3)
 else if 192 ≤ c then ((c - 192) * 64 + lowV s (i + 1), 2)
 else (c, 1)
def sub (s : ByteArray) (i n : Nat) : List UInt8 := (s.data.toList.drop i).take n
def atV (s : ByteArray) (i : Nat) : Int × Int :=
 if s.size < i + (atP s i).2 ∨ (pointB (atP s i).1).length ≠ (atP s i).2 ∨ pointB (atP s i).1 ≠ sub s i (atP s i).2 then (0, 0) else ((atP s i).1, (atP s i).2)
def badAt (s : ByteArray) (i : Nat) : Prop := (Utf8.decode s i).1 = 65533 ∧ (Utf8.decode s i).2 = 1
theorem toB_bN (s : ByteArray) (i : Nat) (x : Int) (h : x = bN s i) : toB x = s.data.toList.getD i 0 := by
 subst h
 unfold toB bN
 apply UInt8.toNat_inj.1
 rw [UInt8.toNat_ofNat']
 have := (s.data.toList.getD i 0).toNat_lt
 omega
theorem sub_cons (s : ByteArray) (i n : Nat) (h : i < s.size) : sub s i (n + 1) = s.data.toList.getD i 0 :: sub s (i + 1) n := by
 have hl : i < s.data.toList.length := by rw [Array.length_toList]; exact h
 unfold sub
 rw [List.drop_eq_getElem_cons hl, List.take_succ_cons, List.getD_eq_getElem?_getD, List.getElem?_eq_getElem hl]
 rfl
theorem sub_zero (s : ByteArray) (i : Nat) : sub s i 0 = [] := by simp [sub]
theorem valid_iff (c : Nat) : Utf8.valid (c : Int) = true ↔ (c < 55296 ∨ (57344 ≤ c ∧ c ≤ 1114111)) := by
 simp [Utf8.valid]; omega
theorem decode_bN (s : ByteArray) (i : Nat) : Utf8.decode s i =
 (if bN s i < 128 then (bN s i, 1) else if bN s i / 32 = 6 ∧ (i + 1 < s.size ∧ bN s (i + 1) / 64 = 2) then
   (if 128 ≤ (bN s i % 32) * 64 + bN s (i + 1) % 64 then ((bN s i % 32) * 64 + bN s (i + 1) % 64, 2) else (65533, 1)) else if bN s i / 16 = 14 ∧ (i + 1 < s.size ∧ bN s (i + 1) / 64 = 2) ∧ (i + 2 < s.size ∧ bN s (i + 2) / 64 = 2) then
   (if 2048 ≤ (bN s i % 16) * 4096 + (bN s (i + 1) % 64) * 64 + bN s (i + 2) % 64 ∧ Utf8.valid (((bN s i % 16) * 4096 + (bN s (i + 1) % 64) * 64 + bN s (i + 2) % 64 : Nat) : Int) = true then ((bN s i % 16) * 4096 + (bN s (i + 1) % 64) * 64 + bN s (i + 2) % 64, 3) else (65533, 1)) else if bN s i / 8 = 30 ∧ (i + 1 < s.size ∧ bN s (i + 1) / 64 = 2) ∧ (i + 2 < s.size ∧ bN s (i + 2) / 64 = 2) ∧ (i + 3 < s.size ∧ bN s (i + 3) / 64 = 2) then
   (if 65536 ≤ (bN s i % 8) * 262144 + (bN s (i + 1) % 64) * 4096 + (bN s (i + 2) % 64) * 64 + bN s (i + 3) % 64 ∧ Utf8.valid (((bN s i % 8) * 262144 + (bN s (i + 1) % 64) * 4096 + (bN s (i + 2) % 64) * 64 + bN s (i + 3) % 64 : Nat) : Int) = true then ((bN s i % 8) * 262144 + (bN s (i + 1) % 64) * 4096 + (bN s (i + 2) % 64) * 64 + bN s (i + 3) % 64, 4) else (65533, 1)) else (65533, 1)) := by
 unfold Utf8.decode
 simp only [bN_get, Nat.add_zero, Bool.and_eq_true, beq_iff_eq, decide_eq_true_eq, and_assoc, ge_iff_le, Utf8.runeError]
theorem pointB_none {p : Int} (h : p < 0 ∨ 1114111 < p ∨ (55296 ≤ p ∧ p ≤ 57343)) : pointB p = [] := by unfold pointB; rw [if_pos h]
theorem pointB_1 {p : Int} (h0 : 0 ≤ p) (h : p < 128) : pointB p = [toB p] := by unfold pointB; rw [if_neg (by omega), if_pos h]
theorem pointB_2 {p : Int} (h0 : 128 ≤ p) (h : p < 2048) : pointB p = [toB (192 + p / 64), toB (128 + p % 64)] := by unfold pointB; rw [if_neg (by omega), if_neg (by omega), if_pos h]
theorem pointB_3 {p : Int} (h0 : 2048 ≤ p) (h : p < 65536) (h2 : ¬ (55296 ≤ p ∧ p ≤ 57343)) : pointB p = [toB (224 + p / 4096), toB (128 + p / 64 % 64), toB (128 + p % 64)] := by
 unfold pointB; rw [if_neg (by omega), if_neg (by omega), if_neg (by omega), if_pos h]
theorem pointB_4 {p : Int} (h0 : 65536 ≤ p) (h : p ≤ 1114111) : pointB p = [toB (240 + p / 262144), toB (128 + p / 4096 % 64), toB (128 + p / 64 % 64), toB (128 + p % 64)] := by
 unfold pointB; rw [if_neg (by omega), if_neg (by omega), if_neg (by omega), if_neg (by omega)]
theorem atV_bad {s : ByteArray} {i : Nat} (h : (pointB (atP s i).1).length ≠ (atP s i).2) : atV s i = (0, 0) := by
 unfold atV; rw [if_pos (.inr (.inl h))]
theorem atV_good {s : ByteArray} {i : Nat} {p : Int} {n : Nat} (h : atP s i = (p, n)) (h1 : i + n ≤ s.size) (h2 : pointB p = sub s i n) (h3 : (pointB p).length = n) : atV s i = (p, (n : Int)) := by
 unfold atV; rw [h]; simp only; rw [if_neg (by simp only [h2, ne_eq, not_true_eq_false, or_false, not_or]; rw [← h2]; omega)]
theorem lowV_in {s : ByteArray} {i : Nat} (h : i < s.size ∧ bN s i / 64 = 2) : lowV s i = bN s i - 128 ∧ bN s i % 64 = bN s i - 128 ∧ 128 ≤ bN s i ∧ bN s i < 192 := by
 unfold lowV; rw [if_neg (by omega)]; omega
theorem lowV_out {s : ByteArray} {i : Nat} (h : ¬ (i < s.size ∧ bN s i / 64 = 2)) : lowV s i = -1099511627776 := by
 unfold lowV; rw [if_pos (by omega)]
theorem lowV_le (s : ByteArray) (i : Nat) : lowV s i ≤ 63 ∧ -1099511627776 ≤ lowV s i := by
 unfold lowV; split <;> omega
theorem atV_decode (s : ByteArray) (i : Nat) (h : i < s.size) : (badAt s i ∧ atV s i = (0, 0)) ∨ (¬ badAt s i ∧ atV s i = (((Utf8.decode s i).1 : Int), ((Utf8.decode s i).2 : Int))) := by
 have hd := decode_bN s i
 have h0 := bN_lt s i; have h1 := bN_lt s (i + 1); have h2 := bN_lt s (i + 2); have h3 := bN_lt s (i + 3)
 have l1 := lowV_le s (i + 1); have l2 := lowV_le s (i + 2); have l3 := lowV_le s (i + 3)
 by_cases c0 : bN s i < 128
 ·rw [if_pos c0] at hd
  refine .inr ⟨by unfold badAt; rw [hd]; simp only; omega, ?_⟩
  rw [hd]
  refine atV_good (by unfold atP; simp only; rw [if_neg (by omega), if_neg (by omega), if_neg (by omega)]) (by omega) ?_ ?_
  ·rw [pointB_1 (by omega) (by omega), sub_cons s i 0 h, sub_zero, toB_bN s i _ rfl]
  rw [pointB_1 (by omega) (by omega)]; rfl
 rw [if_neg c0] at hd
 by_cases c1 : bN s i < 192
 ·refine .inl ?_
  rw [if_neg (by omega), if_neg (by omega), if_neg (by omega)] at hd
  refine ⟨⟨by rw [hd], by rw [hd]⟩, atV_bad ?_⟩
  have e : atP s i = ((bN s i : Int), 1) := by unfold atP; simp only; rw [if_neg (by omega), if_neg (by omega), if_neg (by omega)]
  rw [e]; simp only
  rw [pointB_2 (by omega) (by omega)]; simp
 by_cases c2 : bN s i < 224
 ·have e : atP s i = (((bN s i : Int) - 192) * 64 + lowV s (i + 1), 2) := by unfold atP; simp only; rw [if_neg (by omega), if_neg (by omega), if_pos (by omega)]
  by_cases k1 : i + 1 < s.size ∧ bN s (i + 1) / 64 = 2
  ·rw [if_pos ⟨by omega, k1⟩] at hd
   obtain ⟨q1, q2, q3, q4⟩ := lowV_in k1
   by_cases c3 : 128 ≤ (bN s i % 32) * 64 + bN s (i + 1) % 64
   ·rw [if_pos c3] at hd
    refine .inr ⟨by unfold badAt; rw [hd]; simp, ?_⟩
    rw [hd]
    have e2 : ((bN s i : Int) - 192) * 64 + lowV s (i + 1) = ((bN s i % 32 * 64 + bN s (i + 1) % 64 : Nat) : Int) := by omega
    rw [e2] at e
    refine atV_good e (by omega) ?_ ?_
    ·rw [pointB_2 (by omega) (by omega), sub_cons s i 1 h, sub_cons s (i + 1) 0 k1.1, sub_zero, toB_bN s i _ (by omega), toB_bN s (i + 1) _ (by omega)]
    rw [pointB_2 (by omega) (by omega)]; rfl
   rw [if_neg c3] at hd
   refine .inl ⟨⟨by rw [hd], by rw [hd]⟩, atV_bad ?_⟩
   rw [e]; simp only
   rw [pointB_1 (by omega) (by omega)]; simp
  rw [if_neg (fun h => k1 h.2), if_neg (by omega), if_neg (by omega)] at hd
  refine .inl ⟨⟨by rw [hd], by rw [hd]⟩, atV_bad ?_⟩
  have q := lowV_out k1
  rw [e]; simp only
  rw [pointB_none (.inl (by omega))]; simp
 by_cases c3 : bN s i < 240
 ·have e : atP s i = (((bN s i : Int) - 224) * 4096 + lowV s (i + 1) * 64 + lowV s (i + 2), 3) := by unfold atP; simp only; rw [if_neg (by omega), if_pos (by omega)]
  rw [if_neg (by omega)] at hd
  by_cases k1 : i + 1 < s.size ∧ bN s (i + 1) / 64 = 2
  ·by_cases k2 : i + 2 < s.size ∧ bN s (i + 2) / 64 = 2
   ·rw [if_pos ⟨by omega, k1, k2⟩] at hd
    obtain ⟨q1, q2, q3, q4⟩ := lowV_in k1
    obtain ⟨r1, r2, r3, r4⟩ := lowV_in k2
    have e2 : ((bN s i : Int) - 224) * 4096 + lowV s (i + 1) * 64 + lowV s (i + 2) = ((bN s i % 16 * 4096 + bN s (i + 1) % 64 * 64 + bN s (i + 2) % 64 : Nat) : Int) := by omega
    rw [e2] at e
    simp only [valid_iff] at hd
    generalize hP : bN s i % 16 * 4096 + bN s (i + 1) % 64 * 64 + bN s (i + 2) % 64 = P at hd e
    by_cases c4 : 2048 ≤ P ∧ (P < 55296 ∨ (57344 ≤ P ∧ P ≤ 1114111))
    ·rw [if_pos c4] at hd
     refine .inr ⟨by unfold badAt; rw [hd]; simp, ?_⟩
     rw [hd]
     have hpt := pointB_3 (p := (P : Int)) (by omega) (by omega) (by omega)
     refine atV_good e (by omega) ?_ ?_
     ·rw [hpt, sub_cons s i 2 h, sub_cons s (i + 1) 1 k1.1, sub_cons s (i + 2) 0 k2.1, sub_zero, toB_bN s i _ (by omega), toB_bN s (i + 1) _ (by omega), toB_bN s (i + 2) _ (by omega)]
     rw [hpt]; rfl
    rw [if_neg c4] at hd
    refine .inl ⟨⟨by rw [hd], by rw [hd]⟩, atV_bad ?_⟩
    rw [e]; simp only
    by_cases c5 : P < 128
    ·rw [pointB_1 (by omega) (by omega)]; simp
    by_cases c6 : P < 2048
    ·rw [pointB_2 (by omega) (by omega)]; simp
    rw [pointB_none (.inr (.inr (by omega)))]; simp
   rw [if_neg (fun h => k2 h.2.2), if_neg (by omega)] at hd
   refine .inl ⟨⟨by rw [hd], by rw [hd]⟩, atV_bad ?_⟩
   have q := lowV_out k2
   rw [e]; simp only
   rw [pointB_none (.inl (by omega))]; simp
  rw [if_neg (fun h => k1 h.2.1), if_neg (by omega)] at hd
  refine .inl ⟨⟨by rw [hd], by rw [hd]⟩, atV_bad ?_⟩
  have q := lowV_out k1
  rw [e]; simp only
  rw [pointB_none (.inl (by omega))]; simp
 have e : atP s i = (((bN s i : Int) - 240) * 262144 + lowV s (i + 1) * 4096 + lowV s (i + 2) * 64 + lowV s (i + 3), 4) := by unfold atP; simp only; rw [if_pos (by omega)]
 rw [if_neg (by omega), if_neg (by omega)] at hd
 by_cases k1 : i + 1 < s.size ∧ bN s (i + 1) / 64 = 2
 ·by_cases k2 : i + 2 < s.size ∧ bN s (i + 2) / 64 = 2
  ·by_cases k3 : i + 3 < s.size ∧ bN s (i + 3) / 64 = 2
   ·obtain ⟨q1, q2, q3, q4⟩ := lowV_in k1
    obtain ⟨r1, r2, r3, r4⟩ := lowV_in k2
    obtain ⟨t1, t2, t3, t4⟩ := lowV_in k3
    by_cases c7 : bN s i / 8 = 30
    ·rw [if_pos ⟨c7, k1, k2, k3⟩] at hd
     have e2 : ((bN s i : Int) - 240) * 262144 + lowV s (i + 1) * 4096 + lowV s (i + 2) * 64 + lowV s (i + 3) = ((bN s i % 8 * 262144 + bN s (i + 1) % 64 * 4096 + bN s (i + 2) % 64 * 64 + bN s (i + 3) % 64 : Nat) : Int) := by omega
     rw [e2] at e
     simp only [valid_iff] at hd
     generalize hP : bN s i % 8 * 262144 + bN s (i + 1) % 64 * 4096 + bN s (i + 2) % 64 * 64 + bN s (i + 3) % 64 = P at hd e
     by_cases c4 : 65536 ≤ P ∧ (P < 55296 ∨ (57344 ≤ P ∧ P ≤ 1114111))
     ·rw [if_pos c4] at hd
      refine .inr ⟨by unfold badAt; rw [hd]; simp, ?_⟩
      rw [hd]
      have hpt := pointB_4 (p := (P : Int)) (by omega) (by omega)
      refine atV_good e (by omega) ?_ ?_
      ·rw [hpt, sub_cons s i 3 h, sub_cons s (i + 1) 2 k1.1, sub_cons s (i + 2) 1 k2.1, sub_cons s (i + 3) 0 k3.1, sub_zero, toB_bN s i _ (by omega), toB_bN s (i + 1) _ (by omega), toB_bN s (i + 2) _ (by omega), toB_bN s (i + 3) _ (by omega)]
      rw [hpt]; rfl
     rw [if_neg c4] at hd
     refine .inl ⟨⟨by rw [hd], by rw [hd]⟩, atV_bad ?_⟩
     rw [e]; simp only
     by_cases c5 : P < 128
     ·rw [pointB_1 (by omega) (by omega)]; simp
     by_cases c6 : P < 2048
     ·rw [pointB_2 (by omega) (by omega)]; simp
     by_cases c8 : 55296 ≤ P ∧ P ≤ 57343
     ·rw [pointB_none (.inr (.inr (by omega)))]; simp
     by_cases c9 : P < 65536
     ·rw [pointB_3 (by omega) (by omega) (by omega)]; simp
     rw [pointB_none (.inr (.inl (by omega)))]; simp
    rw [if_neg (fun h => c7 h.1)] at hd
    refine .inl ⟨⟨by rw [hd], by rw [hd]⟩, atV_bad ?_⟩
    rw [e]; simp only
    rw [pointB_none (.inr (.inl (by omega)))]; simp
   rw [if_neg (fun h => k3 h.2.2.2)] at hd
   refine .inl ⟨⟨by rw [hd], by rw [hd]⟩, atV_bad ?_⟩
   have q := lowV_out k3
   rw [e]; simp only
   rw [pointB_none (.inl (by omega))]; simp
  rw [if_neg (fun h => k2 h.2.2.1)] at hd
  refine .inl ⟨⟨by rw [hd], by rw [hd]⟩, atV_bad ?_⟩
  have q := lowV_out k2
  rw [e]; simp only
  rw [pointB_none (.inl (by omega))]; simp
 rw [if_neg (fun h => k1 h.2.1)] at hd
 refine .inl ⟨⟨by rw [hd], by rw [hd]⟩, atV_bad ?_⟩
 have q := lowV_out k1
 rw [e]; simp only
 rw [pointB_none (.inl (by omega))]; simp
end Go.Proofs.YtnomlloaahoceaaGreatDoor

/- Contracts of code points. No condition. -/
namespace Go.Proofs.YtnomlloaahoceaaGreatDoor
open Go.RowKit
set_option linter.unusedVariables false
set_option linter.unusedSimpArgs false
theorem u8_of {x : Int} (h0 : 0 ≤ x) (h1 : x < 256) : Value.int .u8 (IntKind.u8.wrap x) = uB (toB x) := by
 rw [IntKind.wrap_u8, Int.emod_eq_of_lt h0 h1, uB_toB h0 h1]
theorem owns_nil {w : World} {B : Nat} {el : TypeId} {sz : Nat} : Owns w B none 0 el sz 0 [] := ⟨by simp, .inl ⟨rfl, rfl, rfl⟩⟩
theorem low_calls (s : ByteArray) (i : Nat) (hs : s.size ≤ 4611686018427387904) (w : World) :
 Calls Tryz.prog 108 ⟨[.string s, .int .i64 i]⟩ w fun e w' => e = .returned (.int .i64 (lowV s i)) ∧ w = w' := by
 have hb : btAt s i = bN s i := rfl
 have hl := bN_lt s i
 refine gc_enter (N := 26) Tryz.func108 rfl rfl rfl [(0, _), (1, _)] rfl ?_
 refine gc_seq fun K1 hK1 => gc_region (Zp rfl (gl_nil (hK1 _ _ (gc_seq fun K2 hK2 => gc_seq fun K3 hK3 => gc_region (Zp rfl (Zp rfl (Zp rfl (Zp rfl (Zp rfl (gl_split (t := 9) rfl (fun c9 => ?_) (fun c9 => ?_)))))))))))
 ·simp only [NN, reduceCtorEq] at c9
  refine Zs rfl (Zs rfl (Zs rfl (Zs rfl (Zp rfl (Zp rfl (Zs rfl (Zs rfl (Zs rfl (Zs rfl (Zp rfl (gl_nil (hK3 _ _ (gc_cond_t rfl (gc_seq fun K4 hK4 => gc_region (Zp rfl (gl_nil (hK4 _ _ (gc_ret ?_))))))))))))))))))
  simp only [XR]
  refine gk_ret1 rfl rfl ?_
  refine ⟨?_, rfl⟩
  unfold lowV; rw [if_pos (by omega)]
 simp only [NN, reduceCtorEq] at c9
 refine Zu rfl (Zp rfl (Zu rfl (Zp rfl (Zu rfl (gl_op rfl rfl rfl (op_index hT rfl rfl rfl rfl (by omega) (by omega)) ?_)))))
 refine Zu rfl (Zp rfl (Zp rfl (Zp rfl (gl_split (t := 15) rfl (fun c15 => ?_) (fun c15 => ?_)))))
 ·simp only [NN, reduceCtorEq] at c15
  refine Zs rfl (Zs rfl (Zs rfl (Zs rfl (Zp rfl (gl_nil (hK3 _ _ (gc_cond_t rfl (gc_seq fun K5 hK5 => gc_region (Zp rfl (gl_nil (hK5 _ _ (gc_ret ?_))))))))))))
  simp only [XR]
  refine gk_ret1 rfl rfl ?_
  refine ⟨?_, rfl⟩
  unfold lowV; rw [if_pos (by omega)]
 simp only [NN, reduceCtorEq] at c15
 refine Zu rfl (Zp rfl (Zu rfl (Zp rfl (Zu rfl (gl_op rfl rfl rfl (op_index hT rfl rfl rfl rfl (by omega) (by omega)) ?_)))))
 refine Zu rfl (Zp rfl (Zp rfl (gl_nil (hK3 _ _ (gc_cond rfl rfl (fun c20 => ?_) (fun c20 => ?_))))))
 ·simp only [NN, reduceCtorEq] at c20
  refine gc_seq fun K6 hK6 => gc_region (Zp rfl (gl_nil (hK6 _ _ (gc_ret ?_))))
  simp only [XR]
  refine gk_ret1 rfl rfl ?_
  refine ⟨?_, rfl⟩
  unfold lowV; rw [if_pos (by omega)]
 simp only [NN, reduceCtorEq] at c20
 refine gc_skip (hK2 _ _ (gc_seq fun K7 hK7 => gc_region (Zp rfl (Zp rfl (gl_op rfl rfl rfl (op_index hT rfl rfl rfl rfl (by omega) (by omega)) ?_)))))
 refine Zp rfl (gl_spell 24 (v := .int .i64 (bN s i : Nat)) rfl (by rw [hb, wrap_i64 (by omega)]) ?_)
 refine Zi rfl (by omega) ?_
 refine Zp rfl (gl_nil (hK7 _ _ (gc_ret (gk_ret1 rfl rfl ?_))))
 refine ⟨?_, rfl⟩
 unfold lowV; rw [if_neg (by omega)]
theorem Point_calls (p : Int) (hp : -9223372036854775808 ≤ p ∧ p ≤ 9223372036854775807) (w : World) :
 Calls Tryz.prog 109 ⟨[.int .i64 p]⟩ w fun e w' => ∃ A c, e = .returned (.slice A (pointB p).length c) ∧ Owns w' w.heap.size A c 5 1 (pointB p).length ((pointB p).map uB) ∧ Below w.heap.size w w' := by
 refine gc_enter (N := 72) Tryz.func109 rfl rfl rfl [(0, _)] rfl ?_
 have hS := St.start w
 refine gc_seq fun K1 hK1 => gc_region (Zp rfl (gl_nil (hK1 _ _ (gc_seq fun K2 hK2 => gc_block (gc_seq fun K3 hK3 => gc_region (Zp rfl (Zp rfl (Zp rfl (gl_split (t := 6) rfl (fun c6 => ?_) (fun c6 => ?_))))))))))
 ·simp only [NN, reduceCtorEq] at c6
  refine Zs rfl (Zs rfl (Zp rfl (Zp rfl (Zs rfl (Zs rfl (Zs rfl (gl_none rfl rfl rfl rfl rfl ?_)))))))
  refine gl_none rfl rfl rfl rfl rfl ?_
  refine Zs rfl (Zp rfl (Zp rfl (gl_nil (hK3 _ _ (gc_cond_t rfl (gc_seq fun K4 hK4 => gc_region (Zp rfl (gl_nil (hK4 _ _ (gc_ret ?_))))))))))
  simp only [XR]
  refine gk_ret1 rfl rfl ?_
  rw [pointB_none (by omega)]; exact ⟨none, 0, rfl, owns_nil, hS.below⟩
 simp only [NN, reduceCtorEq] at c6
 refine Zu rfl (Zp rfl (Zu rfl (Zp rfl (Zp rfl (Zp rfl (gl_split (t := 10) rfl (fun c10 => ?_) (fun c10 => ?_)))))))
 ·simp only [NN, reduceCtorEq] at c10
  refine Zs rfl (Zs rfl (Zs rfl (gl_none rfl rfl rfl rfl rfl ?_)))
  refine gl_none rfl rfl rfl rfl rfl ?_
  refine Zs rfl (Zp rfl (Zp rfl (gl_nil (hK3 _ _ (gc_cond_t rfl (gc_seq fun K5 hK5 => gc_region (Zp rfl (gl_nil (hK5 _ _ (gc_ret ?_))))))))))
  simp only [XR]
  refine gk_ret1 rfl rfl ?_
  rw [pointB_none (by omega)]; exact ⟨none, 0, rfl, owns_nil, hS.below⟩
 simp only [NN, reduceCtorEq] at c10
 refine Zu rfl (Zp rfl (Zu rfl (Zp rfl (Zu rfl (Zp rfl (gl_split (t := 13) rfl (fun c13 => ?_) (fun c13 => ?_)))))))
 ·simp only [NN, reduceCtorEq] at c13
  refine Zu rfl (Zp rfl (Zu rfl (Zp rfl (Zu rfl (Zp rfl (Zp rfl (Zp rfl (gl_nil (hK3 _ _ (gc_cond rfl rfl (fun c3 => ?_) (fun c3 => ?_)))))))))))
  ·simp only [NN, reduceCtorEq] at c3
   refine gc_seq fun K6 hK6 => gc_region (Zp rfl (gl_nil (hK6 _ _ (gc_ret ?_))))
   simp only [XR]
   refine gk_ret1 rfl rfl ?_
   rw [pointB_none (by omega)]; exact ⟨none, 0, rfl, owns_nil, hS.below⟩
  simp only [NN, reduceCtorEq] at c3
  refine gc_seq fun K7 hK7 => gc_region (Zp rfl (Zp rfl (Zp rfl (gl_nil (hK7 _ _ (gc_cond rfl rfl (fun c18 => ?_) (fun c18 => ?_)))))))
  ·simp only [NN, reduceCtorEq] at c18
   refine gc_seq fun K8 hK8 => gc_region (Zp rfl (Zp rfl (gl_lit hT hS el5 rfl rfl rfl rfl rfl rfl rfl rfl rfl fun g23 w23 hS => ?_)))
   refine Zp rfl (gl_nil (hK8 _ _ (gc_ret ?_)))
   simp only [XR]
   refine gk_ret1 rfl rfl ?_
   rw [pointB_1 (by omega) (by omega)]
   obtain ⟨h2, h3⟩ := hS.out (i := 0) rfl
   rw [u8_of (by omega) (by omega)] at h2
   exact ⟨_, _, rfl, h2, h3⟩
  simp only [NN, reduceCtorEq] at c18
  refine gc_seq fun K9 hK9 => gc_region (Zp rfl (Zp rfl (Zp rfl (gl_nil (hK9 _ _ (gc_cond rfl rfl (fun c24 => ?_) (fun c24 => ?_)))))))
  ·simp only [NN, reduceCtorEq] at c24
   refine gc_seq fun K10 hK10 => gc_region (Zp rfl (gl_op rfl rfl rfl (op_quo hT rfl (by omega) (by omega)) ?_))
   refine Zi rfl (by omega) ?_
   refine Zp rfl (Zp rfl (gl_op rfl rfl rfl (op_rem hT rfl (by omega)) ?_))
   refine Zi rfl (by omega) ?_
   refine Zp rfl (gl_lit hT hS el5 rfl rfl rfl rfl rfl rfl rfl rfl rfl fun g35 w35 hS => ?_)
   refine Zp rfl (gl_nil (hK10 _ _ (gc_ret ?_)))
   simp only [XR]
   refine gk_ret1 rfl rfl ?_
   rw [pointB_2 (by omega) (by omega)]
   obtain ⟨h2, h3⟩ := hS.out (i := 0) rfl
   rw [u8_of (by omega) (by omega), u8_of (by omega) (by omega)] at h2
   exact ⟨_, _, rfl, h2, h3⟩
  simp only [NN, reduceCtorEq] at c24
  refine gc_seq fun K11 hK11 => gc_region (Zp rfl (Zp rfl (Zp rfl (gl_nil (hK11 _ _ (gc_cond rfl rfl (fun c36 => ?_) (fun c36 => ?_)))))))
  ·simp only [NN, reduceCtorEq] at c36
   refine gc_seq fun K12 hK12 => gc_region (Zp rfl (gl_op rfl rfl rfl (op_quo hT rfl (by omega) (by omega)) ?_))
   refine Zi rfl (by omega) ?_
   refine Zp rfl (Zp rfl (gl_op rfl rfl rfl (op_quo hT rfl (by omega) (by omega)) ?_))
   refine gl_op rfl rfl rfl (op_rem hT rfl (by omega)) ?_
   refine Zi rfl (by omega) ?_
   refine Zp rfl (Zp rfl (gl_op rfl rfl rfl (op_rem hT rfl (by omega)) ?_))
   refine Zi rfl (by omega) ?_
   refine Zp rfl (gl_lit hT hS el5 rfl rfl rfl rfl rfl rfl rfl rfl rfl fun g52 w52 hS => ?_)
   refine Zp rfl (gl_nil (hK12 _ _ (gc_ret ?_)))
   simp only [XR]
   refine gk_ret1 rfl rfl ?_
   rw [pointB_3 (by omega) (by omega) (by omega)]
   obtain ⟨h2, h3⟩ := hS.out (i := 0) rfl
   rw [u8_of (by omega) (by omega), u8_of (by omega) (by omega), u8_of (by omega) (by omega)] at h2
   exact ⟨_, _, rfl, h2, h3⟩
  simp only [NN, reduceCtorEq] at c36
  refine gc_skip (hK2 _ _ (gc_seq fun K13 hK13 => gc_region (Zp rfl (gl_op rfl rfl rfl (op_quo hT rfl (by omega) (by omega)) ?_))))
  refine Zi rfl (by omega) ?_
  refine Zp rfl (Zp rfl (gl_op rfl rfl rfl (op_quo hT rfl (by omega) (by omega)) ?_))
  refine gl_op rfl rfl rfl (op_rem hT rfl (by omega)) ?_
  refine Zi rfl (by omega) ?_
  refine Zp rfl (Zp rfl (gl_op rfl rfl rfl (op_quo hT rfl (by omega) (by omega)) ?_))
  refine gl_op rfl rfl rfl (op_rem hT rfl (by omega)) ?_
  refine Zi rfl (by omega) ?_
  refine Zp rfl (Zp rfl (gl_op rfl rfl rfl (op_rem hT rfl (by omega)) ?_))
  refine Zi rfl (by omega) ?_
  refine Zp rfl (gl_lit hT hS el5 rfl rfl rfl rfl rfl rfl rfl rfl rfl fun g71 w71 hS => ?_)
  refine Zp rfl (gl_nil (hK13 _ _ (gc_ret (gk_ret1 rfl rfl ?_))))
  rw [pointB_4 (by omega) (by omega)]
  obtain ⟨h2, h3⟩ := hS.out (i := 0) rfl
  rw [u8_of (by omega) (by omega), u8_of (by omega) (by omega), u8_of (by omega) (by omega), u8_of (by omega) (by omega)] at h2
  exact ⟨_, _, rfl, h2, h3⟩
 simp only [NN, reduceCtorEq] at c13
 refine Zs rfl (Zs rfl (Zu rfl (Zp rfl (Zp rfl (Zp rfl (gl_nil (hK3 _ _ (gc_cond_f rfl (gc_seq fun K14 hK14 => gc_region (Zp rfl (Zp rfl (Zp rfl (gl_nil (hK14 _ _ (gc_cond rfl rfl (fun c18 => ?_) (fun c18 => ?_))))))))))))))))
 ·simp only [NN, reduceCtorEq] at c18
  refine gc_seq fun K15 hK15 => gc_region (Zp rfl (Zp rfl (gl_lit hT hS el5 rfl rfl rfl rfl rfl rfl rfl rfl rfl fun g23 w23 hS => ?_)))
  refine Zp rfl (gl_nil (hK15 _ _ (gc_ret ?_)))
  simp only [XR]
  refine gk_ret1 rfl rfl ?_
  rw [pointB_1 (by omega) (by omega)]
  obtain ⟨h2, h3⟩ := hS.out (i := 0) rfl
  rw [u8_of (by omega) (by omega)] at h2
  exact ⟨_, _, rfl, h2, h3⟩
 simp only [NN, reduceCtorEq] at c18
 refine gc_seq fun K16 hK16 => gc_region (Zp rfl (Zp rfl (Zp rfl (gl_nil (hK16 _ _ (gc_cond rfl rfl (fun c24 => ?_) (fun c24 => ?_)))))))
 ·simp only [NN, reduceCtorEq] at c24
  refine gc_seq fun K17 hK17 => gc_region (Zp rfl (gl_op rfl rfl rfl (op_quo hT rfl (by omega) (by omega)) ?_))
  refine Zi rfl (by omega) ?_
  refine Zp rfl (Zp rfl (gl_op rfl rfl rfl (op_rem hT rfl (by omega)) ?_))
  refine Zi rfl (by omega) ?_
  refine Zp rfl (gl_lit hT hS el5 rfl rfl rfl rfl rfl rfl rfl rfl rfl fun g35 w35 hS => ?_)
  refine Zp rfl (gl_nil (hK17 _ _ (gc_ret ?_)))
  simp only [XR]
  refine gk_ret1 rfl rfl ?_
  rw [pointB_2 (by omega) (by omega)]
  obtain ⟨h2, h3⟩ := hS.out (i := 0) rfl
  rw [u8_of (by omega) (by omega), u8_of (by omega) (by omega)] at h2
  exact ⟨_, _, rfl, h2, h3⟩
 simp only [NN, reduceCtorEq] at c24
 refine gc_seq fun K18 hK18 => gc_region (Zp rfl (Zp rfl (Zp rfl (gl_nil (hK18 _ _ (gc_cond rfl rfl (fun c36 => ?_) (fun c36 => ?_)))))))
 ·simp only [NN, reduceCtorEq] at c36
  refine gc_seq fun K19 hK19 => gc_region (Zp rfl (gl_op rfl rfl rfl (op_quo hT rfl (by omega) (by omega)) ?_))
  refine Zi rfl (by omega) ?_
  refine Zp rfl (Zp rfl (gl_op rfl rfl rfl (op_quo hT rfl (by omega) (by omega)) ?_))
  refine gl_op rfl rfl rfl (op_rem hT rfl (by omega)) ?_
  refine Zi rfl (by omega) ?_
  refine Zp rfl (Zp rfl (gl_op rfl rfl rfl (op_rem hT rfl (by omega)) ?_))
  refine Zi rfl (by omega) ?_
  refine Zp rfl (gl_lit hT hS el5 rfl rfl rfl rfl rfl rfl rfl rfl rfl fun g52 w52 hS => ?_)
  refine Zp rfl (gl_nil (hK19 _ _ (gc_ret ?_)))
  simp only [XR]
  refine gk_ret1 rfl rfl ?_
  rw [pointB_3 (by omega) (by omega) (by omega)]
  obtain ⟨h2, h3⟩ := hS.out (i := 0) rfl
  rw [u8_of (by omega) (by omega), u8_of (by omega) (by omega), u8_of (by omega) (by omega)] at h2
  exact ⟨_, _, rfl, h2, h3⟩
 simp only [NN, reduceCtorEq] at c36
 refine gc_skip (hK2 _ _ (gc_seq fun K20 hK20 => gc_region (Zp rfl (gl_op rfl rfl rfl (op_quo hT rfl (by omega) (by omega)) ?_))))
 refine Zi rfl (by omega) ?_
 refine Zp rfl (Zp rfl (gl_op rfl rfl rfl (op_quo hT rfl (by omega) (by omega)) ?_))
 refine gl_op rfl rfl rfl (op_rem hT rfl (by omega)) ?_
 refine Zi rfl (by omega) ?_
 refine Zp rfl (Zp rfl (gl_op rfl rfl rfl (op_quo hT rfl (by omega) (by omega)) ?_))
 refine gl_op rfl rfl rfl (op_rem hT rfl (by omega)) ?_
 refine Zi rfl (by omega) ?_
 refine Zp rfl (Zp rfl (gl_op rfl rfl rfl (op_rem hT rfl (by omega)) ?_))
 refine Zi rfl (by omega) ?_
 refine Zp rfl (gl_lit hT hS el5 rfl rfl rfl rfl rfl rfl rfl rfl rfl fun g71 w71 hS => ?_)
 refine Zp rfl (gl_nil (hK20 _ _ (gc_ret (gk_ret1 rfl rfl ?_))))
 rw [pointB_4 (by omega) (by omega)]
 obtain ⟨h2, h3⟩ := hS.out (i := 0) rfl
 rw [u8_of (by omega) (by omega), u8_of (by omega) (by omega), u8_of (by omega) (by omega), u8_of (by omega) (by omega)] at h2
 exact ⟨_, _, rfl, h2, h3⟩
theorem atP_bounds (s : ByteArray) (i : Nat) : (-9223372036854775808 ≤ (atP s i).1 ∧ (atP s i).1 ≤ 9223372036854775807) ∧ 1 ≤ (atP s i).2 ∧ (atP s i).2 ≤ 4 := by
 have h0 := bN_lt s i
 have l1 := lowV_le s (i + 1); have l2 := lowV_le s (i + 2); have l3 := lowV_le s (i + 3)
 unfold atP
 simp only
 split
 ·exact ⟨by simp only; omega, by simp only; omega⟩
 split
 ·exact ⟨by simp only; omega, by simp only; omega⟩
 split
 ·exact ⟨by simp only; omega, by simp only; omega⟩
 exact ⟨by simp only; omega, by simp only; omega⟩
theorem sub_extract (s : ByteArray) (i n : Nat) (h : i + n ≤ s.size) : s.extract i (i + n) = strB (sub s i n) := by
 have e1 : (s.extract i (i + n)).data = s.data.extract i (i + n) := by simp
 cases hs : s.extract i (i + n) with
 | mk d =>
  rw [hs] at e1
  simp only at e1
  subst e1
  unfold strB sub
  congr 1
  apply Array.toList_inj.1
  simp [Array.toList_extract, List.extract]
theorem At_calls (s : ByteArray) (i : Nat) (hi : i < s.size) (hs : s.size ≤ 4611686018427387904) (w : World) :
 Calls Tryz.prog 88 ⟨[.string s, .int .i64 i]⟩ w fun e w' => e = .returned (.tuple #[.int .i64 (atV s i).1, .int .i64 (atV s i).2]) ∧ Below w.heap.size w w' := by
 have hb : btAt s i = bN s i := rfl
 have h0 := bN_lt s i
 have l1 := lowV_le s (i + 1); have l2 := lowV_le s (i + 2); have l3 := lowV_le s (i + 3)
 refine gc_enter (N := 93) Tryz.func88 rfl rfl rfl [(0, _), (1, _)] rfl ?_
 have hS := St.start w
 refine gc_seq fun K1 hK1 => gc_region (Zp rfl (Zp rfl (gl_nil (hK1 _ _ (gc_seq fun K2 hK2 => gc_region (Zp rfl (Zp rfl (gl_op rfl rfl rfl (op_index hT rfl rfl rfl rfl (by omega) (by omega)) ?_))))))))
 refine Zp rfl (gl_spell 13 (v := .int .i64 (bN s i : Nat)) rfl (by rw [hb, wrap_i64 (by omega)]) ?_)
 refine Zp rfl (gl_nil (hK2 _ _ (gc_seq fun K3 hK3 => gc_region (Zp rfl (Zp rfl (gl_nil (hK3 _ _ (gc_seq fun K4 hK4 => gc_region (Zp rfl (gl_nil (hK4 _ _ (gc_cut (fun a w' => w = w' ∧ Fr 93 a [(0, .string s), (1, .int .i64 i), (7, .int .i64 (atP s i).1), (8, .int .i64 ((atP s i).2 : Nat))]) ?_ ?_))))))))))))
 ·refine gc_block (gc_seq fun K5 hK5 => gc_region (Zp rfl (Zp rfl (Zp rfl (gl_nil (hK5 _ _ (gc_cond rfl rfl (fun c15 => ?_) (fun c15 => ?_))))))))
  ·simp only [NN, reduceCtorEq] at c15
   refine gc_seq fun K6 hK6 => gc_region (Zp rfl (Zi rfl (by omega) ?_))
   refine Zi rfl (by omega) ?_
   refine Zp rfl (Zp rfl (Zi rfl (by omega) ?_))
   refine gl_callf rfl rfl rfl rfl Tryz.func108 rfl rfl rfl (low_calls s (i + 1) hs _) ?_
   rintro _ w24 ⟨rfl, rfl⟩
   refine ⟨_, rfl, ?_⟩
   refine Zi rfl (by omega) ?_
   refine Zi rfl (by omega) ?_
   refine Zp rfl (Zp rfl (Zi rfl (by omega) ?_))
   refine gl_callf rfl rfl rfl rfl Tryz.func108 rfl rfl rfl (low_calls s (i + 2) hs _) ?_
   rintro _ w30 ⟨rfl, rfl⟩
   refine ⟨_, rfl, ?_⟩
   refine Zi rfl (by omega) ?_
   refine Zi rfl (by omega) ?_
   refine Zp rfl (Zp rfl (Zi rfl (by omega) ?_))
   refine gl_callf rfl rfl rfl rfl Tryz.func108 rfl rfl rfl (low_calls s (i + 3) hs _) ?_
   rintro _ w36 ⟨rfl, rfl⟩
   refine ⟨_, rfl, ?_⟩
   refine Zi rfl (by omega) ?_
   refine Zp rfl (gl_nil (hK6 _ _ (gc_region (Zp rfl (gl_nil ?_)))))
   intro a ha
   refine ⟨rfl, ?_⟩
   have e1 : atP s i = (((bN s i : Int) - 240) * 262144 + lowV s (i + 1) * 4096 + lowV s (i + 2) * 64 + lowV s (i + 3), 4) := by unfold atP; simp only; rw [if_pos (by omega)]
   rw [e1]; exact ha.sub ⟨rfl, rfl, rfl, rfl, trivial⟩
  simp only [NN, reduceCtorEq] at c15
  refine gc_seq fun K7 hK7 => gc_region (Zp rfl (Zp rfl (Zp rfl (gl_nil (hK7 _ _ (gc_cond rfl rfl (fun c38 => ?_) (fun c38 => ?_)))))))
  ·simp only [NN, reduceCtorEq] at c38
   refine gc_seq fun K8 hK8 => gc_region (Zp rfl (Zi rfl (by omega) ?_))
   refine Zi rfl (by omega) ?_
   refine Zp rfl (Zp rfl (Zi rfl (by omega) ?_))
   refine gl_callf rfl rfl rfl rfl Tryz.func108 rfl rfl rfl (low_calls s (i + 1) hs _) ?_
   rintro _ w47 ⟨rfl, rfl⟩
   refine ⟨_, rfl, ?_⟩
   refine Zi rfl (by omega) ?_
   refine Zi rfl (by omega) ?_
   refine Zp rfl (Zp rfl (Zi rfl (by omega) ?_))
   refine gl_callf rfl rfl rfl rfl Tryz.func108 rfl rfl rfl (low_calls s (i + 2) hs _) ?_
   rintro _ w53 ⟨rfl, rfl⟩
   refine ⟨_, rfl, ?_⟩
   refine Zi rfl (by omega) ?_
   refine Zp rfl (gl_nil (hK8 _ _ (gc_region (Zp rfl (gl_nil ?_)))))
   intro a ha
   refine ⟨rfl, ?_⟩
   have e1 : atP s i = (((bN s i : Int) - 224) * 4096 + lowV s (i + 1) * 64 + lowV s (i + 2), 3) := by unfold atP; simp only; rw [if_neg (by omega), if_pos (by omega)]
   rw [e1]; exact ha.sub ⟨rfl, rfl, rfl, rfl, trivial⟩
  simp only [NN, reduceCtorEq] at c38
  refine gc_seq fun K9 hK9 => gc_region (Zp rfl (Zp rfl (Zp rfl (gl_nil (hK9 _ _ (gc_cond rfl rfl (fun c55 => ?_) (fun c55 => ?_)))))))
  ·simp only [NN, reduceCtorEq] at c55
   refine gc_seq fun K10 hK10 => gc_region (Zp rfl (Zi rfl (by omega) ?_))
   refine Zi rfl (by omega) ?_
   refine Zp rfl (Zp rfl (Zi rfl (by omega) ?_))
   refine gl_callf rfl rfl rfl rfl Tryz.func108 rfl rfl rfl (low_calls s (i + 1) hs _) ?_
   rintro _ w64 ⟨rfl, rfl⟩
   refine ⟨_, rfl, ?_⟩
   refine Zi rfl (by omega) ?_
   refine Zp rfl (gl_nil (hK10 _ _ (gc_region (Zp rfl (gl_nil ?_)))))
   intro a ha
   refine ⟨rfl, ?_⟩
   have e1 : atP s i = (((bN s i : Int) - 192) * 64 + lowV s (i + 1), 2) := by unfold atP; simp only; rw [if_neg (by omega), if_neg (by omega), if_pos (by omega)]
   rw [e1]; exact ha.sub ⟨rfl, rfl, rfl, rfl, trivial⟩
  simp only [NN, reduceCtorEq] at c55
  refine gc_skip ?_
  intro a ha
  refine ⟨rfl, ?_⟩
  have e1 : atP s i = ((bN s i : Int), 1) := by unfold atP; simp only; rw [if_neg (by omega), if_neg (by omega), if_neg (by omega)]
  rw [e1]; exact ha.sub ⟨rfl, rfl, rfl, rfl, trivial⟩
 rintro a _ ⟨rfl, hF⟩
 refine gc_of hF ?_
 have hbd := atP_bounds s i
 refine gc_seq fun K11 hK11 => gc_region (Zp rfl (gl_callf rfl rfl rfl rfl Tryz.func109 rfl rfl rfl (Point_calls (atP s i).1 hbd.1 _) ?_))
 rintro _ w67 ⟨A67, c67, rfl, hr67, hb67⟩
 refine ⟨_, rfl, ?_⟩
 have hS := hS.addRow hb67 hr67
 refine Zp rfl (gl_nil (hK11 _ _ (gc_seq fun K12 hK12 => gc_seq fun K13 hK13 => gc_quiet (by kernel_rfl) (by kernel_rfl) ?_)))
 refine gq_op rfl rfl rfl (op_pure hT rfl) ?_
 refine gq_op rfl rfl rfl (op_pure hT rfl) ?_
 refine gq_fit hT rfl rfl rfl rfl (by omega) ?_
 refine gq_op rfl rfl rfl (op_pure hT rfl) ?_
 refine gq_op rfl rfl rfl (op_pure hT rfl) ?_
 refine gq_op rfl rfl rfl (op_pure hT rfl) ?_
 refine gq_op rfl rfl rfl (op_pure hT rfl) ?_
 refine gq_split (t := 74) rfl (fun c74 => ?_) (fun c74 => ?_)
 ·simp only [NN, reduceCtorEq] at c74
  refine gq_pass rfl rfl rfl rfl rfl rfl ?_
  refine gq_pass rfl rfl rfl rfl rfl rfl ?_
  refine gq_pass rfl rfl rfl rfl rfl rfl ?_
  refine gq_pass rfl rfl rfl rfl rfl rfl ?_
  refine gq_op rfl rfl rfl (op_pure hT rfl) ?_
  refine gq_op rfl rfl rfl (op_pure hT rfl) ?_
  refine gq_pass rfl rfl rfl rfl rfl rfl ?_
  refine gq_pass rfl rfl rfl rfl rfl rfl ?_
  refine gq_pass rfl rfl rfl rfl rfl rfl ?_
  refine gq_pass rfl rfl rfl rfl rfl rfl ?_
  refine gq_pass rfl rfl rfl rfl rfl rfl ?_
  refine gq_pass rfl rfl rfl rfl rfl rfl ?_
  refine gq_pass rfl rfl rfl rfl rfl rfl ?_
  refine gq_pass rfl rfl rfl rfl rfl rfl ?_
  refine gq_pass rfl rfl rfl rfl rfl rfl ?_
  refine gq_op rfl rfl rfl (op_pure hT rfl) ?_
  refine gq_nil fun nq1 => ?_
  have hS := hS.dr nq1
  refine hK13 _ _ (gc_cond_t rfl (gc_seq fun K14 hK14 => gc_region (Zp rfl (Zp rfl (gl_nil (hK14 _ _ (gc_ret ?_)))))))
  simp only [XR]
  refine gk_ret2 rfl rfl rfl ?_
  exact ⟨by unfold atV; rw [if_pos (.inl (by omega))], hS.below⟩
 simp only [NN, reduceCtorEq] at c74
 refine gq_un rfl rfl rfl rfl ?_
 refine gq_op rfl rfl rfl (op_pure hT rfl) ?_
 refine gq_un rfl rfl rfl rfl ?_
 refine gq_op rfl rfl rfl (op_pure hT rfl) ?_
 refine gq_un rfl rfl rfl rfl ?_
 refine gq_op rfl rfl rfl (op_pure hT rfl) ?_
 refine gq_un rfl rfl rfl rfl ?_
 refine gq_op rfl rfl rfl (op_pure hT rfl) ?_
 refine gq_op rfl rfl rfl (op_pure hT rfl) ?_
 refine gq_op rfl rfl rfl (op_pure hT rfl) ?_
 refine gq_split (t := 80) rfl (fun c80 => ?_) (fun c80 => ?_)
 ·simp only [NN, reduceCtorEq] at c80
  refine gq_pass rfl rfl rfl rfl rfl rfl ?_
  refine gq_pass rfl rfl rfl rfl rfl rfl ?_
  refine gq_pass rfl rfl rfl rfl rfl rfl ?_
  refine gq_pass rfl rfl rfl rfl rfl rfl ?_
  refine gq_pass rfl rfl rfl rfl rfl rfl ?_
  refine gq_pass rfl rfl rfl rfl rfl rfl ?_
  refine gq_pass rfl rfl rfl rfl rfl rfl ?_
  refine gq_pass rfl rfl rfl rfl rfl rfl ?_
  refine gq_pass rfl rfl rfl rfl rfl rfl ?_
  refine gq_op rfl rfl rfl (op_pure hT rfl) ?_
  refine gq_nil fun nq2 => ?_
  have hS := hS.dr nq2
  refine hK13 _ _ (gc_cond_t rfl (gc_seq fun K15 hK15 => gc_region (Zp rfl (Zp rfl (gl_nil (hK15 _ _ (gc_ret ?_)))))))
  simp only [XR]
  refine gk_ret2 rfl rfl rfl ?_
  exact ⟨by rw [atV_bad (by omega)], hS.below⟩
 simp only [NN, reduceCtorEq] at c80
 refine gq_un rfl rfl rfl rfl ?_
 refine gq_op rfl rfl rfl (op_pure hT rfl) ?_
 refine gq_un rfl rfl rfl rfl ?_
 refine gq_op rfl rfl rfl (op_b2s hT (hS.rdE (i := 0) rfl) rfl rfl rfl rfl rfl (by first | rfl | omega | (simp; omega))) ?_
 refine gq_un rfl rfl rfl rfl ?_
 refine gq_op rfl rfl rfl (op_pure hT rfl) ?_
 refine gq_un rfl rfl rfl rfl ?_
 refine gq_op rfl rfl rfl (op_pure hT rfl) ?_
 refine gq_un rfl rfl rfl rfl ?_
 refine gq_op rfl rfl rfl (op_pure hT rfl) ?_
 refine gq_un rfl rfl rfl rfl ?_
 refine gq_op rfl rfl rfl (op_pure hT rfl) ?_
 refine gq_un rfl rfl rfl rfl ?_
 refine gq_fit hT rfl rfl rfl rfl (by omega) ?_
 refine gq_un rfl rfl rfl rfl ?_
 refine gq_op rfl rfl rfl (op_str_lh hT rfl rfl rfl rfl rfl (by first | omega | (simp; omega)) (by first | omega | (simp; omega)) (by first | omega | (simp; omega))) ?_
 refine gq_un rfl rfl rfl rfl ?_
 refine gq_op rfl rfl rfl (op_pure hT rfl) ?_
 refine gq_op rfl rfl rfl (op_pure hT rfl) ?_
 refine gq_nil fun nq3 => ?_
 have hS := hS.dr nq3
 refine hK13 _ _ (gc_cond rfl rfl (fun c90 => ?_) (fun c90 => ?_))
 ·simp only [NN, reduceCtorEq] at c90
  refine gc_seq fun K16 hK16 => gc_region (Zp rfl (Zp rfl (gl_nil (hK16 _ _ (gc_ret ?_)))))
  simp only [XR]
  refine gk_ret2 rfl rfl rfl ?_
  have e1 : ((i : Int)).toNat = i := by omega
  have e2 : ((i : Int) + ((atP s i).2 : Nat)).toNat = i + (atP s i).2 := by omega
  rw [e1, e2, sub_extract s i _ (by omega)] at c90
  exact ⟨by unfold atV; rw [if_pos (.inr (.inr (fun h => c90 (by rw [h]))))], hS.below⟩
 simp only [NN, reduceCtorEq] at c90
 refine gc_skip (hK12 _ _ (gc_seq fun K17 hK17 => gc_region (Zp rfl (Zp rfl (Zp rfl (Zp rfl (gl_nil (hK17 _ _ (gc_ret (gk_ret2 rfl rfl rfl ?_))))))))))
 have e1 : ((i : Int)).toNat = i := by omega
 have e2 : ((i : Int) + ((atP s i).2 : Nat)).toNat = i + (atP s i).2 := by omega
 rw [e1, e2, sub_extract s i _ (by omega)] at c90
 have e3 := strB_inj c90
 have e4 : atV s i = ((atP s i).1, ((atP s i).2 : Int)) := by
  unfold atV
  rw [if_neg (fun h => h.elim (fun h => by omega) fun h => h.elim (fun h => h (by omega)) fun h => h e3)]
 exact ⟨by rw [e4], hS.below⟩
theorem rRunes_calls (s : ByteArray) (hs : s.size ≤ 4611686018427387904) (w : World) :
 Calls Tryz.prog 87 ⟨[.string s]⟩ w fun e w' => e = .returned (.tuple #[.int .i64 (runesV s).1, .bool (runesV s).2]) ∧ Below w.heap.size w w' := by
 refine gc_enter (N := 26) Tryz.func87 rfl rfl rfl [(0, _)] rfl ?_
 have hS := St.start w
 refine gc_seq fun K1 hK1 => gc_region (Zp rfl (Zp rfl (gl_nil (hK1 _ _ (gc_seq fun K2 hK2 => gc_region (Zp rfl (gl_nil (hK2 _ _ (gc_seq fun K3 hK3 => gc_seq fun K4 hK4 => gc_region (Zp rfl (gl_nil (hK4 _ _ (gc_block (gc_loop (fun k a w' => ∃ (n pos : Nat), Fr 26 a [(0, .string s), (4, .int .i64 n), (5, .int .i64 pos)] ∧ n ≤ pos ∧ pos ≤ s.size ∧ s.size < k + pos ∧ runesFrom s k pos n = runesFrom s (s.size + 1) 0 0 ∧ St w.heap.size w w' []) (s.size + 1) ?_ ?_ ?_))))))))))))))
 ·intro a ha; exact ⟨0, 0, ha.sub ⟨rfl, rfl, rfl, trivial⟩, by omega, by omega, by omega, rfl, hS⟩
 ·rintro a w ⟨n, pos, _, h1, h2, h3, _⟩; omega
 rintro f a w1 ⟨n, pos, hF, hn, hpos, hf, hr, hS⟩
 refine gc_of hF ?_
 refine gc_seq fun K5 hK5 => gc_seq fun K6 hK6 => gc_region (Zp rfl (Zp rfl (Zp rfl (Zp rfl (gl_nil (hK6 _ _ (gc_cond rfl rfl (fun c11 => ?_) (fun c11 => ?_))))))))
 ·simp only [NN, reduceCtorEq] at c11
  refine gc_skip (hK5 _ _ (gc_block (gc_seq fun K7 hK7 => gc_region (Zp rfl (Zp rfl ?_)))))
  have hlt : pos < s.size := by omega
  have hw1 := Lib.decode_width_pos s pos hlt
  have hdec := atV_decode s pos hlt
  have hfit := decode_fit s pos hlt
  have hmore := fun h => runesFrom_more (f := f) (n := n) hlt h
  have hav : (pos : Int) + (atV s pos).2 ≤ s.size ∧ 0 ≤ (atV s pos).2 := by
   rcases hdec with ⟨_, hv⟩ | ⟨_, hv⟩ <;> rw [hv] <;> simp only <;> omega
  refine gl_callf rfl rfl rfl rfl Tryz.func88 rfl rfl rfl (At_calls s pos hlt hs _) ?_
  rintro _ w15 ⟨rfl, hb15⟩
  refine ⟨_, rfl, ?_⟩
  have hS := hS.grown hb15
  refine Zp rfl (Zp rfl (Zp rfl (Zp rfl (Zp rfl (gl_nil (hK7 _ _ (gc_seq fun K8 hK8 => gc_seq fun K9 hK9 => gc_region (Zp rfl (Zp rfl (gl_nil (hK9 _ _ (gc_cond rfl rfl (fun c19 => ?_) (fun c19 => ?_)))))))))))))
  ·simp only [NN, reduceCtorEq] at c19
   refine gc_seq fun K10 hK10 => gc_region (Zp rfl (Zp rfl (gl_nil (hK10 _ _ (gc_ret ?_)))))
   simp only [XR]
   refine gk_ret2 rfl rfl rfl ?_
   have hbad : badAt s pos := by
    rcases hdec with ⟨h, _⟩ | ⟨_, hv⟩
    ·exact h
    rw [hv] at c19; simp only at c19; omega
   have e1 : runesV s = (0, false) := by unfold runesV; rw [← hr, runesFrom_bad hlt hbad.1 hbad.2]
   rw [e1]
   exact ⟨rfl, hS.below⟩
  simp only [NN, reduceCtorEq] at c19
  refine gc_skip (hK8 _ _ (gc_seq fun K11 hK11 => gc_region (Zp rfl (Zp rfl (Zi rfl (by omega) ?_)))))
  refine Zp rfl (gl_nil (hK11 _ _ (gc_region (Zp rfl (Zi rfl (by omega) ?_)))))
  refine Zp rfl (gl_nil ?_)
  intro a ha
  rcases hdec with ⟨_, hv⟩ | ⟨hb, hv⟩
  ·rw [hv] at c19; simp at c19
  rw [hv] at ha
  exact ⟨n + 1, pos + (Utf8.decode s pos).2, ha.sub ⟨rfl, rfl, rfl, trivial⟩, by omega, hfit, by omega, by rw [← hr, hmore hb], hS⟩
 simp only [NN, reduceCtorEq] at c11
 refine gc_exit ?_
 refine hK3 _ _ (gc_seq fun K12 hK12 => gc_region (Zp rfl (Zp rfl (Zp rfl (gl_nil (hK12 _ _ (gc_ret (gk_ret2 rfl rfl rfl ?_))))))))
 have e1 : runesV s = ((n : Int), true) := by unfold runesV; rw [← hr, runesFrom_end (by omega)]
 rw [e1]
 exact ⟨rfl, hS.below⟩
end Go.Proofs.YtnomlloaahoceaaGreatDoor
