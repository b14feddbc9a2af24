/- Contracts of texts. No condition. -/
import Derived.Test.YtpeomdobcobdiaaDoorW7
import Derived.Test.YtpeomdobcobdiaaDoorDec
import Derived.Lib.RuneCount
namespace Go.Proofs.YtpeomdobcobdiaaDoor
open Go.RowKit
set_option linter.unusedVariables false
set_option linter.unusedSimpArgs false
/-- How many code points, from a place on; none: it is no text. -/
def runesFrom (s : ByteArray) : Nat → Nat → Nat → Option Nat
  | 0, _, n => some n
  | f + 1, pos, n => if pos < s.size then (if (Utf8.decode s pos).1 = 65533 ∧ (Utf8.decode s pos).2 = 1 then none else runesFrom s f (pos + (Utf8.decode s pos).2) (n + 1)) else some n
def runesV (s : ByteArray) : Int × Bool := match runesFrom s (s.size + 1) 0 0 with
  | none => (0, false)
  | some n => (n, true)
theorem runesFrom_end {s : ByteArray} {f pos n : Nat} (h : s.size ≤ pos) : runesFrom s f pos n = some n := by
  cases f with
  | zero => rfl
  | succ f => rw [runesFrom, if_neg (by omega)]
theorem runesFrom_bad {s : ByteArray} {f pos n : Nat} (h : pos < s.size) (h1 : (Utf8.decode s pos).1 = 65533) (h2 : (Utf8.decode s pos).2 = 1) : runesFrom s (f + 1) pos n = none := by
  rw [runesFrom, if_pos h, if_pos ⟨h1, h2⟩]
theorem runesFrom_more {s : ByteArray} {f pos n : Nat} (h : pos < s.size) (h1 : ¬ ((Utf8.decode s pos).1 = 65533 ∧ (Utf8.decode s pos).2 = 1)) : runesFrom s (f + 1) pos n = runesFrom s f (pos + (Utf8.decode s pos).2) (n + 1) := by
  rw [runesFrom, if_pos h, if_neg h1]
theorem extract_get (s : ByteArray) (pos k : Nat) : (s.extract pos s.size).get! k = s.get! (pos + k) := by
  have e1 : (s.extract pos s.size).data = s.data.extract pos s.size := by simp
  have e2 : ∀ (a : ByteArray) (i : Nat), a.get! i = a.data[i]! := fun _ _ => rfl
  rw [e2, e2, e1]
  simp only [Array.getElem!_eq_getD, Array.getD_eq_getD_getElem?]
  congr 1
  rw [Array.getElem?_extract]
  have e3 : s.size = s.data.size := rfl
  by_cases h : k < min s.size s.data.size - pos
  · rw [if_pos h]
  · rw [if_neg h, Array.getElem?_eq_none (by omega)]
theorem decodeGo_at (s : ByteArray) (pos : Nat) (h : pos < s.size) : Lib.decodeGo (s.extract pos s.size) = Utf8.decode s pos := by
  have hs : (s.extract pos s.size).size = s.size - pos := by simp
  unfold Lib.decodeGo
  rw [if_neg (by omega)]
  have hc : ∀ k, decide (k < s.size - pos) = decide (pos + k < s.size) := fun k => by
    by_cases h : pos + k < s.size
    · rw [decide_eq_true h, decide_eq_true (by omega)]
    · rw [decide_eq_false h, decide_eq_false (by omega)]
  unfold Utf8.decode
  simp only [hs, extract_get, Nat.zero_add, hc]
theorem decode_fit (s : ByteArray) (pos : Nat) (h : pos < s.size) : pos + (Utf8.decode s pos).2 ≤ s.size := by
  simp only [Utf8.decode]
  repeat' split
  all_goals simp_all
  all_goals omega
theorem Runes_calls (s : ByteArray) (hs : s.size ≤ 4611686018427387904) (w : World) (hU : Tabs w) :
    Calls Tryd.prog 25 ⟨[.string s]⟩ w fun e w' => e = .returned (.tuple #[.int .i64 (runesV s).1, .bool (runesV s).2]) ∧ Below w.heap.size w w' := by
  refine gc_enter (N := 29) Tryd.func25 rfl rfl rfl [(0, _)] rfl ?_
  have hS := St.start w
  refine gc_seq fun K1 hK1 => ?_
  refine gc_region ?_
  refine gl_op rfl rfl rfl (op_pure hT rfl) ?_
  refine gl_op rfl rfl rfl (op_pure hT rfl) ?_
  refine gl_nil ?_
  refine hK1 _ _ ?_
  clear hK1; try clear K1
  refine gc_seq fun K2 hK2 => ?_
  refine gc_region ?_
  refine gl_op rfl rfl rfl (op_pure hT rfl) ?_
  refine gl_nil ?_
  refine hK2 _ _ ?_
  clear hK2; try clear K2
  refine gc_seq fun K3 hK3 => ?_
  refine gc_seq fun K4 hK4 => ?_
  refine gc_region ?_
  refine gl_op rfl rfl rfl (op_pure hT rfl) ?_
  refine gl_range hT hS rfl rfl rfl rfl rfl rfl fun g10 w10 hS => ?_
  refine gl_nil ?_
  refine hK4 _ _ ?_
  clear hK4; try clear K4
  refine gc_block ?_
  refine gc_loop (fun k a w' => ∃ (n pos g : Nat), Fr 29 a [(0, .string s), (4, .int .i64 n), (10, .pointer (some ⟨g, 0, none⟩))] ∧ n ≤ pos ∧ pos ≤ s.size ∧ s.size < k + pos ∧ runesFrom s k pos n = runesFrom s (s.size + 1) 0 0 ∧
    St w.heap.size w w' [.obj g (.stringIter s pos)]) (s.size + 1) ?_ ?_ ?_
  · intro a ha; exact ⟨0, 0, _, ha.sub ⟨rfl, rfl, rfl, trivial⟩, by omega, by omega, by omega, rfl, hS⟩
  · rintro a w ⟨n, pos, g, _, h1, h2, h3, _⟩; omega
  rintro f a w1 ⟨n, pos, g, hF, hn, hpos, hf, hr, hS⟩
  refine gc_of hF ?_
  refine gc_seq fun K5 hK5 => ?_
  refine gc_region ?_
  refine gl_next 0 hS rfl rfl rfl rfl rfl rfl (fun p11 w11 hS => ?_) (fun p11 => ?_)
  · skip
    have hw1 := Lib.decode_width_pos s pos p11
    refine gl_op rfl rfl rfl (op_pure hT rfl) ?_
    refine gl_nil ?_
    refine hK5 _ _ ?_
    clear hK5; try clear K5
    refine gc_seq fun K6 hK6 => ?_
    refine gc_cond_t rfl ?_
    refine gc_skip ?_
    refine hK6 _ _ ?_
    clear hK6; try clear K6
    refine gc_block ?_
    refine gc_seq fun K7 hK7 => ?_
    refine gc_region ?_
    refine gl_op rfl rfl rfl (op_pure hT rfl) ?_
    refine gl_op rfl rfl rfl (op_pure hT rfl) ?_
    refine gl_op rfl rfl rfl (op_pure hT rfl) ?_
    refine gl_op rfl rfl rfl (op_pure hT rfl) ?_
    refine gl_nil ?_
    refine hK7 _ _ ?_
    clear hK7; try clear K7
    refine gc_seq fun K8 hK8 => ?_
    refine gc_seq fun K9 hK9 => ?_
    refine gc_region ?_
    refine gl_op rfl rfl rfl (op_pure hT rfl) ?_
    refine gl_op rfl rfl rfl (op_pure hT rfl) ?_
    refine gl_nil ?_
    refine hK9 _ _ ?_
    clear hK9; try clear K9
    refine gc_cond rfl rfl (fun c16 => ?_) (fun c16 => ?_)
    · try simp only [decide_eq_true_eq, decide_eq_false_iff_not, Bool.not_eq_true', Bool.not_eq_false', Int.not_lt, Int.not_le, Nat.not_lt, Nat.not_le, Bool.true_eq, Bool.false_eq, reduceCtorEq] at c16
      refine gc_seq fun K10 hK10 => ?_
      refine gc_region ?_
      refine gl_op rfl rfl rfl (op_pure hT rfl) ?_
      refine gl_op rfl rfl rfl (op_pure hT rfl) ?_
      refine gl_op rfl rfl rfl (op_str_l hT rfl rfl rfl rfl (by first | omega | (simp; omega)) (by first | omega | (simp; omega))) ?_
      refine gl_callf rfl rfl rfl rfl Tryd.func53 rfl rfl rfl (Decode_calls _ _ (hU.old hS)) ?_
      rintro _ w21 ⟨rfl, hb21⟩
      refine ⟨_, rfl, ?_⟩
      have hS := hS.grown hb21
      have hx : ((pos : Int)).toNat = pos := by omega
      rw [hx, decodeGo_at s pos p11]
      refine gl_op rfl rfl rfl (op_pure hT rfl) ?_
      refine gl_op rfl rfl rfl (op_pure hT rfl) ?_
      refine gl_op rfl rfl rfl (op_pure hT rfl) ?_
      refine gl_op rfl rfl rfl (op_pure hT rfl) ?_
      refine gl_op rfl rfl rfl (op_pure hT rfl) ?_
      refine gl_nil ?_
      refine hK10 _ _ ?_
      clear hK10; try clear K10
      refine gc_seq fun K11 hK11 => ?_
      refine gc_region ?_
      refine gl_op rfl rfl rfl (op_pure hT rfl) ?_
      refine gl_op rfl rfl rfl (op_pure hT rfl) ?_
      refine gl_nil ?_
      refine hK11 _ _ ?_
      clear hK11; try clear K11
      refine gc_cond rfl rfl (fun c25 => ?_) (fun c25 => ?_)
      · try simp only [decide_eq_true_eq, decide_eq_false_iff_not, Bool.not_eq_true', Bool.not_eq_false', Int.not_lt, Int.not_le, Nat.not_lt, Nat.not_le, Bool.true_eq, Bool.false_eq, reduceCtorEq] at c25
        refine gc_seq fun K12 hK12 => ?_
        refine gc_region ?_
        refine gl_op rfl rfl rfl (op_pure hT rfl) ?_
        refine gl_op rfl rfl rfl (op_pure hT rfl) ?_
        refine gl_nil ?_
        refine hK12 _ _ ?_
        clear hK12; try clear K12
        refine gc_ret ?_
        try simp only [x_then_ret, x_block_ret]
        refine gk_ret2 rfl rfl rfl ?_
        have e1 : runesV s = (0, false) := by unfold runesV; rw [← hr, runesFrom_bad p11 (by omega) (by omega)]
        rw [e1]
        exact ⟨rfl, hS.below⟩
      · try simp only [decide_eq_true_eq, decide_eq_false_iff_not, Bool.not_eq_true', Bool.not_eq_false', Int.not_lt, Int.not_le, Nat.not_lt, Nat.not_le, Bool.true_eq, Bool.false_eq, reduceCtorEq] at c25
        refine gc_skip ?_
        refine hK8 _ _ ?_
        clear hK8; try clear K8
        refine gc_region ?_
        refine gl_op rfl rfl rfl (op_pure hT rfl) ?_
        first | refine gl_fit hT rfl rfl rfl rfl (by omega) ?_ | refine gl_op rfl rfl rfl (op_pure hT rfl) ?_
        refine gl_op rfl rfl rfl (op_pure hT rfl) ?_
        refine gl_nil ?_
        intro a ha
        have hmore := runesFrom_more (f := f) (n := n) p11 (by omega)
        have hle : pos + (Utf8.decode s pos).2 ≤ s.size := decode_fit s pos p11
        exact ⟨n + 1, _, g, ha.sub ⟨rfl, rfl, rfl, trivial⟩, by omega, hle, by omega, by rw [← hr, hmore], hS⟩
    · try simp only [decide_eq_true_eq, decide_eq_false_iff_not, Bool.not_eq_true', Bool.not_eq_false', Int.not_lt, Int.not_le, Nat.not_lt, Nat.not_le, Bool.true_eq, Bool.false_eq, reduceCtorEq] at c16
      refine gc_skip ?_
      refine hK8 _ _ ?_
      clear hK8; try clear K8
      refine gc_region ?_
      refine gl_op rfl rfl rfl (op_pure hT rfl) ?_
      first | refine gl_fit hT rfl rfl rfl rfl (by omega) ?_ | refine gl_op rfl rfl rfl (op_pure hT rfl) ?_
      refine gl_op rfl rfl rfl (op_pure hT rfl) ?_
      refine gl_nil ?_
      intro a ha
      have hmore := runesFrom_more (f := f) (n := n) p11 (by omega)
      have hle : pos + (Utf8.decode s pos).2 ≤ s.size := decode_fit s pos p11
      exact ⟨n + 1, _, g, ha.sub ⟨rfl, rfl, rfl, trivial⟩, by omega, hle, by omega, by rw [← hr, hmore], hS⟩
  · skip
    refine gl_op rfl rfl rfl (op_pure hT rfl) ?_
    refine gl_nil ?_
    refine hK5 _ _ ?_
    clear hK5; try clear K5
    refine gc_seq fun K13 hK13 => ?_
    refine gc_cond_f rfl ?_
    refine gc_exit ?_
    refine hK3 _ _ ?_
    clear hK3; try clear K3
    refine gc_seq fun K14 hK14 => ?_
    refine gc_region ?_
    refine gl_op rfl rfl rfl (op_pure hT rfl) ?_
    refine gl_op rfl rfl rfl (op_pure hT rfl) ?_
    refine gl_op rfl rfl rfl (op_pure hT rfl) ?_
    refine gl_nil ?_
    refine hK14 _ _ ?_
    clear hK14; try clear K14
    refine gc_ret ?_
    try simp only [x_then_ret, x_block_ret]
    refine gk_ret2 rfl rfl rfl ?_
    have e1 : runesV s = ((n : Int), true) := by unfold runesV; rw [← hr, runesFrom_end p11]
    rw [e1]
    exact ⟨rfl, hS.below⟩
/-- A text that is read, at most so long: the text, the place behind it, the error. -/
def textB (l : List UInt8) (p n : Nat) : ByteArray := strB ((l.drop p).take n)
def readTextV (l : List UInt8) (at_ most : Int) : ByteArray × Int × Int :=
  if at_ < 0 ∨ (l.length : Int) < at_ ∨ most < 0 then (⟨#[]⟩, 0, 1) else
  let r := readUV l at_
  if r.2.2 ≠ 0 then (⟨#[]⟩, 0, r.2.2) else
  if most < r.1 then (⟨#[]⟩, 0, 13) else
  if l.length - r.2.1 < r.1 then (⟨#[]⟩, 0, 10) else
  if (runesV (textB l r.2.1.toNat r.1.toNat)).2 = false then (⟨#[]⟩, 0, 14) else
  (textB l r.2.1.toNat r.1.toNat, r.2.1 + r.1, 0)
theorem rdGo_ok (l : List UInt8) (at_ : Nat) : ∀ k i v, v < 128 ^ i → i + k ≤ 9 → (rdGo l at_ k i v).2.2 = 0 → 0 ≤ (rdGo l at_ k i v).1 ∧ (rdGo l at_ k i v).1 < 9223372036854775808 ∧ (at_ + i : Nat) < (rdGo l at_ k i v).2.1 ∧ (rdGo l at_ k i v).2.1 ≤ l.length := by
  intro k
  induction k with
  | zero => intro i v _ _ h; simp [rdGo] at h
  | succ k ih =>
    intro i v hv hik h
    by_cases hl : l.length ≤ at_ + i
    · rw [rdGo_short hl] at h; simp at h
    · have hik2 : i + 1 + k ≤ 9 := by omega
      have hs := (or_step v ((l.getD (at_ + i) 0).toNat % 128) i (by omega) hv (by omega)).2
      have h9 : 128 ^ (i + 1) ≤ 128 ^ 9 := pow128_le (by omega)
      have h12 : (128 : Nat) ^ 9 = 9223372036854775808 := by decide
      by_cases hc : (l.getD (at_ + i) 0).toNat < 128
      · by_cases h0 : (l.getD (at_ + i) 0).toNat = 0 ∧ 0 < i
        · rw [rdGo_form (by omega) h0.1 h0.2] at h; simp at h
        · rw [rdGo_end (by omega) hc h0]
          refine ⟨?_, ?_, ?_, ?_⟩ <;> first | omega | (dsimp only; omega)
      · rw [rdGo_more (by omega) (by omega)] at h ⊢
        have := ih (i + 1) _ hs hik2 h
        generalize rdGo l at_ k (i + 1) _ = X at this ⊢
        exact ⟨this.1, this.2.1, by have := this.2.2.1; clear h9 h12 hs hv h; omega, this.2.2.2⟩
theorem readUV_ok {l : List UInt8} {at_ : Int} (h : (readUV l at_).2.2 = 0) : 0 ≤ at_ ∧ 0 ≤ (readUV l at_).1 ∧ (readUV l at_).1 < 9223372036854775808 ∧ at_ < (readUV l at_).2.1 ∧ (readUV l at_).2.1 ≤ l.length := by
  unfold readUV at h ⊢
  split at h
  · simp at h
  · rename_i hn
    rw [if_neg hn]
    have := rdGo_ok l at_.toNat 9 0 0 (by decide) (by omega) h
    refine ⟨by omega, this.1, this.2.1, by omega, this.2.2.2⟩
theorem ReadText_calls (A : Option Addr) (c : Nat) (l : List UInt8) (at_ most : Int) (w : World) {ok : Nat → Prop} (h1 : RdE w ok uB A l) (hb : l.length ≤ 1152921504606846976) (hc : l.length ≤ c) (hU : Tabs w) :
    Calls Tryd.prog 31 ⟨[.slice A l.length c, .int .i64 at_, .int .i64 most]⟩ w fun e w' => e = .returned (.tuple #[.string (readTextV l at_ most).1, .int .i64 (readTextV l at_ most).2.1, .int .i64 (readTextV l at_ most).2.2]) ∧ Below w.heap.size w w' := by
  refine gc_enter (N := 64) Tryd.func31 rfl rfl rfl [(0, _), (1, _), (2, _)] rfl ?_
  have hS := St.start w
  have hok := readUV_ok (l := l) (at_ := at_)
  refine gc_seq fun K1 hK1 => ?_
  refine gc_region ?_
  refine gl_op rfl rfl rfl (op_pure hT rfl) ?_
  refine gl_op rfl rfl rfl (op_pure hT rfl) ?_
  refine gl_op rfl rfl rfl (op_pure hT rfl) ?_
  refine gl_nil ?_
  refine hK1 _ _ ?_
  clear hK1; try clear K1
  refine gc_seq fun K2 hK2 => ?_
  refine gc_seq fun K3 hK3 => ?_
  refine gc_region ?_
  refine gl_op rfl rfl rfl (op_pure hT rfl) ?_
  refine gl_op rfl rfl rfl (op_pure hT rfl) ?_
  refine gl_op rfl rfl rfl (op_pure hT rfl) ?_
  refine gl_split (t := 17) rfl (fun c17 => ?_) (fun c17 => ?_)
  · try simp only [decide_eq_true_eq, decide_eq_false_iff_not, Bool.not_eq_true', Bool.not_eq_false', Int.not_lt, Int.not_le, Nat.not_lt, Nat.not_le, Bool.true_eq, Bool.false_eq, reduceCtorEq] at c17
    refine gl_pass rfl rfl rfl rfl rfl rfl ?_
    refine gl_pass rfl rfl rfl rfl rfl rfl ?_
    refine gl_pass rfl rfl rfl rfl rfl rfl ?_
    refine gl_pass rfl rfl rfl rfl rfl rfl ?_
    refine gl_op rfl rfl rfl (op_pure hT rfl) ?_
    refine gl_op rfl rfl rfl (op_pure hT rfl) ?_
    refine gl_pass rfl rfl rfl rfl rfl rfl ?_
    refine gl_pass rfl rfl rfl rfl rfl rfl ?_
    refine gl_op rfl rfl rfl (op_pure hT rfl) ?_
    refine gl_nil ?_
    refine hK3 _ _ ?_
    clear hK3; try clear K3
    refine gc_cond_t rfl ?_
    refine gc_seq fun K4 hK4 => ?_
    refine gc_region ?_
    refine gl_op rfl rfl rfl (op_pure hT rfl) ?_
    refine gl_op rfl rfl rfl (op_pure hT rfl) ?_
    refine gl_op rfl rfl rfl (op_pure hT rfl) ?_
    refine gl_nil ?_
    refine hK4 _ _ ?_
    clear hK4; try clear K4
    refine gc_ret ?_
    try simp only [x_then_ret, x_block_ret]
    refine gk_ret3 rfl rfl rfl rfl ?_
    exact ⟨by unfold readTextV; rw [if_pos (by omega)], hS.below⟩
  · try simp only [decide_eq_true_eq, decide_eq_false_iff_not, Bool.not_eq_true', Bool.not_eq_false', Int.not_lt, Int.not_le, Nat.not_lt, Nat.not_le, Bool.true_eq, Bool.false_eq, reduceCtorEq] at c17
    refine gl_un rfl rfl rfl rfl ?_
    refine gl_op rfl rfl rfl (op_pure hT rfl) ?_
    refine gl_un rfl rfl rfl rfl ?_
    refine gl_op rfl rfl rfl (op_pure hT rfl) ?_
    refine gl_un rfl rfl rfl rfl ?_
    refine gl_op rfl rfl rfl (op_pure hT rfl) ?_
    refine gl_un rfl rfl rfl rfl ?_
    refine gl_op rfl rfl rfl (op_pure hT rfl) ?_
    refine gl_op rfl rfl rfl (op_pure hT rfl) ?_
    refine gl_op rfl rfl rfl (op_pure hT rfl) ?_
    refine gl_split (t := 23) rfl (fun c23 => ?_) (fun c23 => ?_)
    · try simp only [decide_eq_true_eq, decide_eq_false_iff_not, Bool.not_eq_true', Bool.not_eq_false', Int.not_lt, Int.not_le, Nat.not_lt, Nat.not_le, Bool.true_eq, Bool.false_eq, reduceCtorEq] at c23
      refine gl_pass rfl rfl rfl rfl rfl rfl ?_
      refine gl_pass rfl rfl rfl rfl rfl rfl ?_
      refine gl_op rfl rfl rfl (op_pure hT rfl) ?_
      refine gl_nil ?_
      refine hK3 _ _ ?_
      clear hK3; try clear K3
      refine gc_cond_t rfl ?_
      refine gc_seq fun K5 hK5 => ?_
      refine gc_region ?_
      refine gl_op rfl rfl rfl (op_pure hT rfl) ?_
      refine gl_op rfl rfl rfl (op_pure hT rfl) ?_
      refine gl_op rfl rfl rfl (op_pure hT rfl) ?_
      refine gl_nil ?_
      refine hK5 _ _ ?_
      clear hK5; try clear K5
      refine gc_ret ?_
      try simp only [x_then_ret, x_block_ret]
      refine gk_ret3 rfl rfl rfl rfl ?_
      exact ⟨by unfold readTextV; rw [if_pos (by omega)], hS.below⟩
    · try simp only [decide_eq_true_eq, decide_eq_false_iff_not, Bool.not_eq_true', Bool.not_eq_false', Int.not_lt, Int.not_le, Nat.not_lt, Nat.not_le, Bool.true_eq, Bool.false_eq, reduceCtorEq] at c23
      refine gl_un rfl rfl rfl rfl ?_
      refine gl_op rfl rfl rfl (op_pure hT rfl) ?_
      refine gl_un rfl rfl rfl rfl ?_
      refine gl_op rfl rfl rfl (op_pure hT rfl) ?_
      refine gl_op rfl rfl rfl (op_pure hT rfl) ?_
      refine gl_nil ?_
      refine hK3 _ _ ?_
      clear hK3; try clear K3
      refine gc_cond rfl rfl (fun c26 => ?_) (fun c26 => ?_)
      · try simp only [decide_eq_true_eq, decide_eq_false_iff_not, Bool.not_eq_true', Bool.not_eq_false', Int.not_lt, Int.not_le, Nat.not_lt, Nat.not_le, Bool.true_eq, Bool.false_eq, reduceCtorEq] at c26
        refine gc_seq fun K6 hK6 => ?_
        refine gc_region ?_
        refine gl_op rfl rfl rfl (op_pure hT rfl) ?_
        refine gl_op rfl rfl rfl (op_pure hT rfl) ?_
        refine gl_op rfl rfl rfl (op_pure hT rfl) ?_
        refine gl_nil ?_
        refine hK6 _ _ ?_
        clear hK6; try clear K6
        refine gc_ret ?_
        try simp only [x_then_ret, x_block_ret]
        refine gk_ret3 rfl rfl rfl rfl ?_
        exact ⟨by unfold readTextV; rw [if_pos (by omega)], hS.below⟩
      · try simp only [decide_eq_true_eq, decide_eq_false_iff_not, Bool.not_eq_true', Bool.not_eq_false', Int.not_lt, Int.not_le, Nat.not_lt, Nat.not_le, Bool.true_eq, Bool.false_eq, reduceCtorEq] at c26
        refine gc_skip ?_
        refine hK2 _ _ ?_
        clear hK2; try clear K2
        refine gc_seq fun K7 hK7 => ?_
        refine gc_region ?_
        refine gl_op rfl rfl rfl (op_pure hT rfl) ?_
        refine gl_op rfl rfl rfl (op_pure hT rfl) ?_
        refine gl_callf rfl rfl rfl rfl Tryd.func20 rfl rfl rfl (ReadUint_calls A c l at_ _ (h1.old hS) (by omega)) ?_
        rintro _ _ ⟨rfl, n30, rfl⟩
        refine ⟨_, rfl, ?_⟩
        have hS := hS.dr n30
        refine gl_op rfl rfl rfl (op_pure hT rfl) ?_
        refine gl_op rfl rfl rfl (op_pure hT rfl) ?_
        refine gl_op rfl rfl rfl (op_pure hT rfl) ?_
        refine gl_op rfl rfl rfl (op_pure hT rfl) ?_
        refine gl_op rfl rfl rfl (op_pure hT rfl) ?_
        refine gl_op rfl rfl rfl (op_pure hT rfl) ?_
        refine gl_op rfl rfl rfl (op_pure hT rfl) ?_
        refine gl_nil ?_
        refine hK7 _ _ ?_
        clear hK7; try clear K7
        refine gc_seq fun K8 hK8 => ?_
        refine gc_seq fun K9 hK9 => ?_
        refine gc_region ?_
        refine gl_op rfl rfl rfl (op_pure hT rfl) ?_
        refine gl_op rfl rfl rfl (op_pure hT rfl) ?_
        refine gl_nil ?_
        refine hK9 _ _ ?_
        clear hK9; try clear K9
        refine gc_cond rfl rfl (fun c35 => ?_) (fun c35 => ?_)
        · try simp only [decide_eq_true_eq, decide_eq_false_iff_not, Bool.not_eq_true', Bool.not_eq_false', Int.not_lt, Int.not_le, Nat.not_lt, Nat.not_le, Bool.true_eq, Bool.false_eq, reduceCtorEq] at c35
          refine gc_seq fun K10 hK10 => ?_
          refine gc_region ?_
          refine gl_op rfl rfl rfl (op_pure hT rfl) ?_
          refine gl_op rfl rfl rfl (op_pure hT rfl) ?_
          refine gl_op rfl rfl rfl (op_pure hT rfl) ?_
          refine gl_op rfl rfl rfl (op_pure hT rfl) ?_
          refine gl_nil ?_
          refine hK10 _ _ ?_
          clear hK10; try clear K10
          refine gc_ret ?_
          try simp only [x_then_ret, x_block_ret]
          refine gk_ret3 rfl rfl rfl rfl ?_
          have e1 : readTextV l at_ most = (⟨#[]⟩, 0, (readUV l at_).2.2) := by unfold readTextV; rw [if_neg (by omega)]; simp only; rw [if_pos (by simpa using c35)]
          rw [e1]
          exact ⟨rfl, hS.below⟩
        · try simp only [decide_eq_true_eq, decide_eq_false_iff_not, Bool.not_eq_true', Bool.not_eq_false', Int.not_lt, Int.not_le, Nat.not_lt, Nat.not_le, Bool.true_eq, Bool.false_eq, reduceCtorEq] at c35
          refine gc_skip ?_
          refine hK8 _ _ ?_
          clear hK8; try clear K8
          refine gc_seq fun K11 hK11 => ?_
          refine gc_seq fun K12 hK12 => ?_
          refine gc_region ?_
          have hok := hok (by simpa using c35)
          have hne : ¬ (readUV l at_).2.2 ≠ 0 := by simpa using c35
          refine gl_op rfl rfl rfl (op_pure hT rfl) ?_
          refine gl_op rfl rfl rfl (op_pure hT rfl) ?_
          refine gl_op rfl rfl rfl (op_pure hT rfl) ?_
          refine gl_nil ?_
          refine hK12 _ _ ?_
          clear hK12; try clear K12
          refine gc_cond rfl rfl (fun c39 => ?_) (fun c39 => ?_)
          · try simp only [decide_eq_true_eq, decide_eq_false_iff_not, Bool.not_eq_true', Bool.not_eq_false', Int.not_lt, Int.not_le, Nat.not_lt, Nat.not_le, Bool.true_eq, Bool.false_eq, reduceCtorEq] at c39
            refine gc_seq fun K13 hK13 => ?_
            refine gc_region ?_
            refine gl_op rfl rfl rfl (op_pure hT rfl) ?_
            refine gl_op rfl rfl rfl (op_pure hT rfl) ?_
            refine gl_op rfl rfl rfl (op_pure hT rfl) ?_
            refine gl_nil ?_
            refine hK13 _ _ ?_
            clear hK13; try clear K13
            refine gc_ret ?_
            try simp only [x_then_ret, x_block_ret]
            refine gk_ret3 rfl rfl rfl rfl ?_
            have e1 : readTextV l at_ most = (⟨#[]⟩, 0, 13) := by unfold readTextV; rw [if_neg (by omega)]; simp only; rw [if_neg hne, if_pos c39]
            rw [e1]
            exact ⟨rfl, hS.below⟩
          · try simp only [decide_eq_true_eq, decide_eq_false_iff_not, Bool.not_eq_true', Bool.not_eq_false', Int.not_lt, Int.not_le, Nat.not_lt, Nat.not_le, Bool.true_eq, Bool.false_eq, reduceCtorEq] at c39
            refine gc_skip ?_
            refine hK11 _ _ ?_
            clear hK11; try clear K11
            refine gc_seq fun K14 hK14 => ?_
            refine gc_seq fun K15 hK15 => ?_
            refine gc_region ?_
            refine gl_op rfl rfl rfl (op_pure hT rfl) ?_
            refine gl_op rfl rfl rfl (op_pure hT rfl) ?_
            refine gl_op rfl rfl rfl (op_pure hT rfl) ?_
            first | refine gl_fit hT rfl rfl rfl rfl (by omega) ?_ | refine gl_op rfl rfl rfl (op_pure hT rfl) ?_
            refine gl_op rfl rfl rfl (op_pure hT rfl) ?_
            refine gl_op rfl rfl rfl (op_pure hT rfl) ?_
            refine gl_nil ?_
            refine hK15 _ _ ?_
            clear hK15; try clear K15
            refine gc_cond rfl rfl (fun c45 => ?_) (fun c45 => ?_)
            · try simp only [decide_eq_true_eq, decide_eq_false_iff_not, Bool.not_eq_true', Bool.not_eq_false', Int.not_lt, Int.not_le, Nat.not_lt, Nat.not_le, Bool.true_eq, Bool.false_eq, reduceCtorEq] at c45
              refine gc_seq fun K16 hK16 => ?_
              refine gc_region ?_
              refine gl_op rfl rfl rfl (op_pure hT rfl) ?_
              refine gl_op rfl rfl rfl (op_pure hT rfl) ?_
              refine gl_op rfl rfl rfl (op_pure hT rfl) ?_
              refine gl_nil ?_
              refine hK16 _ _ ?_
              clear hK16; try clear K16
              refine gc_ret ?_
              try simp only [x_then_ret, x_block_ret]
              refine gk_ret3 rfl rfl rfl rfl ?_
              have e1 : readTextV l at_ most = (⟨#[]⟩, 0, 10) := by unfold readTextV; rw [if_neg (by omega)]; simp only; rw [if_neg hne, if_neg (by omega), if_pos c45]
              rw [e1]
              exact ⟨rfl, hS.below⟩
            · try simp only [decide_eq_true_eq, decide_eq_false_iff_not, Bool.not_eq_true', Bool.not_eq_false', Int.not_lt, Int.not_le, Nat.not_lt, Nat.not_le, Bool.true_eq, Bool.false_eq, reduceCtorEq] at c45
              refine gc_skip ?_
              refine hK14 _ _ ?_
              clear hK14; try clear K14
              refine gc_seq fun K17 hK17 => ?_
              refine gc_region ?_
              refine gl_op rfl rfl rfl (op_pure hT rfl) ?_
              refine gl_op rfl rfl rfl (op_pure hT rfl) ?_
              refine gl_op rfl rfl rfl (op_pure hT rfl) ?_
              refine gl_op rfl rfl rfl (op_pure hT rfl) ?_
              first | refine gl_fit hT rfl rfl rfl rfl (by omega) ?_ | refine gl_op rfl rfl rfl (op_pure hT rfl) ?_
              refine gl_op rfl rfl rfl (op_slice_lh hT el5 rfl rfl rfl rfl rfl (by first | omega | (simp; omega)) (by first | omega | (simp; omega)) (by first | omega | (simp; omega))) ?_
              refine gl_op rfl rfl rfl (op_b2s hT (RdE.take (RdE.drop (h1.old hS) (k := (readUV l at_).2.1.toNat) (cap := c) (by omega) hc) (readUV l at_).1.toNat) rfl rfl rfl rfl rfl (by simp; omega)) ?_
              refine gl_op rfl rfl rfl (op_pure hT rfl) ?_
              refine gl_nil ?_
              refine hK17 _ _ ?_
              clear hK17; try clear K17
              refine gc_seq fun K18 hK18 => ?_
              refine gc_seq fun K19 hK19 => ?_
              refine gc_region ?_
              refine gl_op rfl rfl rfl (op_pure hT rfl) ?_
              refine gl_callf rfl rfl rfl rfl Tryd.func25 rfl rfl rfl (Runes_calls _ (by rw [strB_size]; simp; omega) _ (hU.old hS)) ?_
              rintro _ w55 ⟨rfl, hb55⟩
              refine ⟨_, rfl, ?_⟩
              have hS := hS.grown hb55
              refine gl_op rfl rfl rfl (op_pure hT rfl) ?_
              refine gl_op rfl rfl rfl (op_pure hT rfl) ?_
              refine gl_op rfl rfl rfl (op_pure hT rfl) ?_
              refine gl_op rfl rfl rfl (op_pure hT rfl) ?_
              refine gl_op rfl rfl rfl (op_pure hT rfl) ?_
              refine gl_nil ?_
              refine hK19 _ _ ?_
              clear hK19; try clear K19
              refine gc_seq fun K20 hK20 => ?_
              refine gc_region ?_
              refine gl_op rfl rfl rfl (op_pure hT rfl) ?_
              refine gl_op rfl rfl rfl (op_pure hT rfl) ?_
              refine gl_nil ?_
              refine hK20 _ _ ?_
              clear hK20; try clear K20
              refine gc_cond rfl rfl (fun c59 => ?_) (fun c59 => ?_)
              · try simp only [decide_eq_true_eq, decide_eq_false_iff_not, Bool.not_eq_true', Bool.not_eq_false', Int.not_lt, Int.not_le, Nat.not_lt, Nat.not_le, Bool.true_eq, Bool.false_eq, reduceCtorEq] at c59
                refine gc_seq fun K21 hK21 => ?_
                refine gc_region ?_
                refine gl_op rfl rfl rfl (op_pure hT rfl) ?_
                refine gl_op rfl rfl rfl (op_pure hT rfl) ?_
                refine gl_op rfl rfl rfl (op_pure hT rfl) ?_
                refine gl_nil ?_
                refine hK21 _ _ ?_
                clear hK21; try clear K21
                refine gc_ret ?_
                try simp only [x_then_ret, x_block_ret]
                refine gk_ret3 rfl rfl rfl rfl ?_
                have e1 : readTextV l at_ most = (⟨#[]⟩, 0, 14) := by unfold readTextV; rw [if_neg (by omega)]; simp only; rw [if_neg hne, if_neg (by omega), if_neg (by omega), if_pos (by simpa [textB] using c59)]
                rw [e1]
                exact ⟨rfl, hS.below⟩
              · try simp only [decide_eq_true_eq, decide_eq_false_iff_not, Bool.not_eq_true', Bool.not_eq_false', Int.not_lt, Int.not_le, Nat.not_lt, Nat.not_le, Bool.true_eq, Bool.false_eq, reduceCtorEq] at c59
                refine gc_skip ?_
                refine hK18 _ _ ?_
                clear hK18; try clear K18
                refine gc_seq fun K22 hK22 => ?_
                refine gc_region ?_
                refine gl_op rfl rfl rfl (op_pure hT rfl) ?_
                refine gl_op rfl rfl rfl (op_pure hT rfl) ?_
                refine gl_op rfl rfl rfl (op_pure hT rfl) ?_
                first | refine gl_fit hT rfl rfl rfl rfl (by omega) ?_ | refine gl_op rfl rfl rfl (op_pure hT rfl) ?_
                refine gl_op rfl rfl rfl (op_pure hT rfl) ?_
                refine gl_op rfl rfl rfl (op_pure hT rfl) ?_
                refine gl_op rfl rfl rfl (op_pure hT rfl) ?_
                refine gl_nil ?_
                refine hK22 _ _ ?_
                clear hK22; try clear K22
                refine gc_ret ?_
                try simp only [x_then_ret, x_block_ret]
                refine gk_ret3 rfl rfl rfl rfl ?_
                have e1 : readTextV l at_ most = (textB l (readUV l at_).2.1.toNat (readUV l at_).1.toNat, (readUV l at_).2.1 + (readUV l at_).1, 0) := by unfold readTextV; rw [if_neg (by omega)]; simp only; rw [if_neg hne, if_neg (by omega), if_neg (by omega), if_neg (by simpa [textB] using c59)]
                rw [e1]
                exact ⟨rfl, hS.below⟩
end Go.Proofs.YtpeomdobcobdiaaDoor
