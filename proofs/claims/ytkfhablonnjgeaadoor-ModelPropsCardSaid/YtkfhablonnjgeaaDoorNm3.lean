/- Contracts of names. No condition. -/
import Derived.Test.YtkfhablonnjgeaaDoorNm2
import Derived.Test.YtkfhablonnjgeaaDoorTy
namespace Go.Proofs.YtkfhablonnjgeaaDoor
open Go.RowKit
set_option linter.unusedVariables false
set_option linter.unusedSimpArgs false
/-- May this code point be in a name? -/
def okP (p : Int) : Bool := !decide (p < 33 ∨ p = 35 ∨ (127 ≤ p ∧ p ≤ 160))
def nmFrom (s : ByteArray) : Nat → Nat → Bool
  | 0, _ => true
  | f + 1, pos => if pos < s.size then okP ((Utf8.decode s pos).1 : Int) && nmFrom s f (pos + (Utf8.decode s pos).2) else true
def nameV (s : ByteArray) : Bool := (runesV s).2 && decide (1 ≤ (runesV s).1 ∧ (runesV s).1 ≤ 32) && nmFrom s (s.size + 1) 0
theorem nmFrom_end {s : ByteArray} {f pos : Nat} (h : s.size ≤ pos) : nmFrom s f pos = true := by
  cases f with
  | zero => rfl
  | succ f => rw [nmFrom, if_neg (by omega)]
theorem nmFrom_bad {s : ByteArray} {f pos : Nat} (h : pos < s.size) (h1 : okP ((Utf8.decode s pos).1 : Int) = false) : nmFrom s (f + 1) pos = false := by
  rw [nmFrom, if_pos h, h1, Bool.false_and]
theorem nmFrom_more {s : ByteArray} {f pos : Nat} (h : pos < s.size) (h1 : okP ((Utf8.decode s pos).1 : Int) = true) : nmFrom s (f + 1) pos = nmFrom s f (pos + (Utf8.decode s pos).2) := by
  rw [nmFrom, if_pos h, h1, Bool.true_and]
theorem okP_f {p : Int} (h : p < 33 ∨ p = 35 ∨ (127 ≤ p ∧ p ≤ 160)) : okP p = false := by unfold okP; rw [decide_eq_true h]; rfl
theorem okP_t {p : Int} (h : ¬ (p < 33 ∨ p = 35 ∨ (127 ≤ p ∧ p ≤ 160))) : okP p = true := by unfold okP; rw [decide_eq_false h]; rfl
theorem nameV_f1 {s : ByteArray} (h : (runesV s).2 = false) : nameV s = false := by unfold nameV; rw [h]; rfl
theorem nameV_f2 {s : ByteArray} (h : ¬ (1 ≤ (runesV s).1 ∧ (runesV s).1 ≤ 32)) : nameV s = false := by unfold nameV; rw [decide_eq_false h, Bool.and_false, Bool.false_and]
theorem nameV_f3 {s : ByteArray} (h : nmFrom s (s.size + 1) 0 = false) : nameV s = false := by unfold nameV; rw [h, Bool.and_false]
theorem nameV_t {s : ByteArray} (h1 : (runesV s).2 = true) (h2 : 1 ≤ (runesV s).1 ∧ (runesV s).1 ≤ 32) (h : nmFrom s (s.size + 1) 0 = true) : nameV s = true := by unfold nameV; rw [h1, h, decide_eq_true h2]; rfl
theorem name_calls (s : ByteArray) (hs : s.size ≤ 4611686018427387904) (w : World) (hU : Tabs w) :
    Calls Tryd.prog 7 ⟨[.string s]⟩ w fun e w' => e = .returned (.bool (nameV s)) ∧ Below w.heap.size w w' := by
  refine gc_enter (N := 41) Tryd.func7 rfl rfl rfl [(0, _)] rfl ?_
  have hS := St.start w
  refine gc_seq fun K1 hK1 => ?_
  refine gc_region ?_
  refine gl_op rfl rfl rfl (op_pure hT rfl) ?_
  refine gl_nil ?_
  refine hK1 _ _ ?_
  clear hK1; try clear K1
  refine gc_seq fun K2 hK2 => ?_
  refine gc_region ?_
  refine gl_op rfl rfl rfl (op_pure hT rfl) ?_
  refine gl_callf rfl rfl rfl rfl Tryd.func18 rfl rfl rfl (Runes_calls s hs _ (hU.old hS)) ?_
  rintro _ w9 ⟨rfl, hb9⟩
  refine ⟨_, rfl, ?_⟩
  have hS := hS.grown hb9
  generalize hr1 : (runesV s).1 = r1
  generalize hr2 : (runesV s).2 = r2
  refine gl_op rfl rfl rfl (op_pure hT rfl) ?_
  refine gl_op rfl rfl rfl (op_pure hT rfl) ?_
  refine gl_op rfl rfl rfl (op_pure hT rfl) ?_
  refine gl_op rfl rfl rfl (op_pure hT rfl) ?_
  refine gl_op rfl rfl rfl (op_pure hT rfl) ?_
  refine gl_nil ?_
  refine hK2 _ _ ?_
  clear hK2; try clear K2
  refine gc_seq fun K3 hK3 => ?_
  refine gc_seq fun K4 hK4 => ?_
  refine gc_region ?_
  refine gl_op rfl rfl rfl (op_pure hT rfl) ?_
  refine gl_op rfl rfl rfl (op_pure hT rfl) ?_
  refine gl_op rfl rfl rfl (op_pure hT rfl) ?_
  refine gl_split (t := 14) rfl (fun c14 => ?_) (fun c14 => ?_)
  · try simp only [decide_eq_true_eq, decide_eq_false_iff_not, Bool.not_eq_true', Bool.not_eq_false', Int.not_lt, Int.not_le, Nat.not_lt, Nat.not_le, Bool.true_eq, Bool.false_eq, reduceCtorEq] at c14
    refine gl_pass rfl rfl rfl rfl rfl rfl ?_
    refine gl_pass rfl rfl rfl rfl rfl rfl ?_
    refine gl_op rfl rfl rfl (op_pure hT rfl) ?_
    refine gl_op rfl rfl rfl (op_pure hT rfl) ?_
    refine gl_pass rfl rfl rfl rfl rfl rfl ?_
    refine gl_pass rfl rfl rfl rfl rfl rfl ?_
    refine gl_op rfl rfl rfl (op_pure hT rfl) ?_
    refine gl_nil ?_
    refine hK4 _ _ ?_
    clear hK4; try clear K4
    refine gc_cond_t rfl ?_
    refine gc_seq fun K5 hK5 => ?_
    refine gc_region ?_
    refine gl_op rfl rfl rfl (op_pure hT rfl) ?_
    refine gl_nil ?_
    refine hK5 _ _ ?_
    clear hK5; try clear K5
    refine gc_ret ?_
    try simp only [x_then_ret, x_block_ret]
    refine gk_ret1 rfl rfl ?_
    refine ⟨?_, hS.below⟩
    first
      | (rw [nameV_f1 (by rw [hr2]; simpa using c14)]; done)
      | (rw [nameV_f2 (by rw [hr1]; omega)]; done)
      | (rw [nameV_f3 (by rw [← hr, nmFrom_bad p24 (okP_f (by omega))])]; done)
      | (rw [nameV_t (by rw [hr2]; simpa using c14) (by rw [hr1]; omega) (by rw [← hr, nmFrom_end (by omega)])]; done)
      | trace_state
  · try simp only [decide_eq_true_eq, decide_eq_false_iff_not, Bool.not_eq_true', Bool.not_eq_false', Int.not_lt, Int.not_le, Nat.not_lt, Nat.not_le, Bool.true_eq, Bool.false_eq, reduceCtorEq] at c14
    refine gl_un rfl rfl rfl rfl ?_
    refine gl_op rfl rfl rfl (op_pure hT rfl) ?_
    refine gl_un rfl rfl rfl rfl ?_
    refine gl_op rfl rfl rfl (op_pure hT rfl) ?_
    refine gl_op rfl rfl rfl (op_pure hT rfl) ?_
    refine gl_op rfl rfl rfl (op_pure hT rfl) ?_
    refine gl_split (t := 18) rfl (fun c18 => ?_) (fun c18 => ?_)
    · try simp only [decide_eq_true_eq, decide_eq_false_iff_not, Bool.not_eq_true', Bool.not_eq_false', Int.not_lt, Int.not_le, Nat.not_lt, Nat.not_le, Bool.true_eq, Bool.false_eq, reduceCtorEq] at c18
      refine gl_pass rfl rfl rfl rfl rfl rfl ?_
      refine gl_pass rfl rfl rfl rfl rfl rfl ?_
      refine gl_op rfl rfl rfl (op_pure hT rfl) ?_
      refine gl_nil ?_
      refine hK4 _ _ ?_
      clear hK4; try clear K4
      refine gc_cond_t rfl ?_
      refine gc_seq fun K6 hK6 => ?_
      refine gc_region ?_
      refine gl_op rfl rfl rfl (op_pure hT rfl) ?_
      refine gl_nil ?_
      refine hK6 _ _ ?_
      clear hK6; try clear K6
      refine gc_ret ?_
      try simp only [x_then_ret, x_block_ret]
      refine gk_ret1 rfl rfl ?_
      refine ⟨?_, hS.below⟩
      first
        | (rw [nameV_f1 (by rw [hr2]; simpa using c14)]; done)
        | (rw [nameV_f2 (by rw [hr1]; omega)]; done)
        | (rw [nameV_f3 (by rw [← hr, nmFrom_bad p24 (okP_f (by omega))])]; done)
        | (rw [nameV_t (by rw [hr2]; simpa using c14) (by rw [hr1]; omega) (by rw [← hr, nmFrom_end (by omega)])]; done)
        | trace_state
    · try simp only [decide_eq_true_eq, decide_eq_false_iff_not, Bool.not_eq_true', Bool.not_eq_false', Int.not_lt, Int.not_le, Nat.not_lt, Nat.not_le, Bool.true_eq, Bool.false_eq, reduceCtorEq] at c18
      refine gl_un rfl rfl rfl rfl ?_
      refine gl_op rfl rfl rfl (op_pure hT rfl) ?_
      refine gl_un rfl rfl rfl rfl ?_
      refine gl_op rfl rfl rfl (op_pure hT rfl) ?_
      refine gl_op rfl rfl rfl (op_pure hT rfl) ?_
      refine gl_nil ?_
      refine hK4 _ _ ?_
      clear hK4; try clear K4
      refine gc_cond rfl rfl (fun c21 => ?_) (fun c21 => ?_)
      · try simp only [decide_eq_true_eq, decide_eq_false_iff_not, Bool.not_eq_true', Bool.not_eq_false', Int.not_lt, Int.not_le, Nat.not_lt, Nat.not_le, Bool.true_eq, Bool.false_eq, reduceCtorEq] at c21
        refine gc_seq fun K7 hK7 => ?_
        refine gc_region ?_
        refine gl_op rfl rfl rfl (op_pure hT rfl) ?_
        refine gl_nil ?_
        refine hK7 _ _ ?_
        clear hK7; try clear K7
        refine gc_ret ?_
        try simp only [x_then_ret, x_block_ret]
        refine gk_ret1 rfl rfl ?_
        refine ⟨?_, hS.below⟩
        first
          | (rw [nameV_f1 (by rw [hr2]; simpa using c14)]; done)
          | (rw [nameV_f2 (by rw [hr1]; omega)]; done)
          | (rw [nameV_f3 (by rw [← hr, nmFrom_bad p24 (okP_f (by omega))])]; done)
          | (rw [nameV_t (by rw [hr2]; simpa using c14) (by rw [hr1]; omega) (by rw [← hr, nmFrom_end (by omega)])]; done)
          | trace_state
      · try simp only [decide_eq_true_eq, decide_eq_false_iff_not, Bool.not_eq_true', Bool.not_eq_false', Int.not_lt, Int.not_le, Nat.not_lt, Nat.not_le, Bool.true_eq, Bool.false_eq, reduceCtorEq] at c21
        refine gc_skip ?_
        refine hK3 _ _ ?_
        clear hK3; try clear K3
        refine gc_seq fun K8 hK8 => ?_
        refine gc_seq fun K9 hK9 => ?_
        refine gc_region ?_
        refine gl_op rfl rfl rfl (op_pure hT rfl) ?_
        refine gl_range hT hS rfl rfl rfl rfl rfl rfl fun g23 w23 hS => ?_
        refine gl_nil ?_
        refine hK9 _ _ ?_
        clear hK9; try clear K9
        refine gc_block ?_
        refine gc_loop (fun k a w' => ∃ (pos g : Nat), Fr 41 a [(23, .pointer (some ⟨g, 0, none⟩))] ∧ pos ≤ s.size ∧ s.size < k + pos ∧ nmFrom s k pos = nmFrom s (s.size + 1) 0 ∧
          St w.heap.size w w' [.obj g (.stringIter s pos)]) (s.size + 1) ?_ ?_ ?_
        · intro a ha; exact ⟨0, _, ha.sub ⟨rfl, trivial⟩, by omega, by omega, rfl, hS⟩
        · rintro a w ⟨pos, g, _, h1, h2, _⟩; omega
        rintro f a w1 ⟨pos, g, hF, hpos, hf, hr, hS⟩
        refine gc_of hF ?_
        refine gc_seq fun K10 hK10 => ?_
        refine gc_region ?_
        refine gl_next 0 hS rfl rfl rfl rfl rfl rfl (fun p24 w24 hS => ?_) (fun p24 => ?_)
        · skip
          have hw1 := Lib.decode_width_pos s pos p24
          refine gl_op rfl rfl rfl (op_pure hT rfl) ?_
          refine gl_nil ?_
          refine hK10 _ _ ?_
          clear hK10; try clear K10
          refine gc_seq fun K11 hK11 => ?_
          refine gc_cond_t rfl ?_
          refine gc_skip ?_
          refine hK11 _ _ ?_
          clear hK11; try clear K11
          refine gc_block ?_
          refine gc_seq fun K12 hK12 => ?_
          refine gc_region ?_
          refine gl_op rfl rfl rfl (op_pure hT rfl) ?_
          refine gl_op rfl rfl rfl (op_pure hT rfl) ?_
          refine gl_nil ?_
          refine hK12 _ _ ?_
          clear hK12; try clear K12
          refine gc_seq fun K13 hK13 => ?_
          refine gc_region ?_
          refine gl_op rfl rfl rfl (op_pure hT rfl) ?_
          refine gl_op rfl rfl rfl (op_pure hT rfl) ?_
          refine gl_op rfl rfl rfl (op_pure hT rfl) ?_
          refine gl_split (t := 29) rfl (fun c29 => ?_) (fun c29 => ?_)
          · try simp only [decide_eq_true_eq, decide_eq_false_iff_not, Bool.not_eq_true', Bool.not_eq_false', Int.not_lt, Int.not_le, Nat.not_lt, Nat.not_le, Bool.true_eq, Bool.false_eq, reduceCtorEq] at c29
            refine gl_pass rfl rfl rfl rfl rfl rfl ?_
            refine gl_pass rfl rfl rfl rfl rfl rfl ?_
            refine gl_op rfl rfl rfl (op_pure hT rfl) ?_
            refine gl_op rfl rfl rfl (op_pure hT rfl) ?_
            refine gl_pass rfl rfl rfl rfl rfl rfl ?_
            refine gl_pass rfl rfl rfl rfl rfl rfl ?_
            refine gl_pass rfl rfl rfl rfl rfl rfl ?_
            refine gl_none rfl rfl rfl rfl rfl ?_
            refine gl_none rfl rfl rfl rfl rfl ?_
            refine gl_pass rfl rfl rfl rfl rfl rfl ?_
            refine gl_op rfl rfl rfl (op_pure hT rfl) ?_
            refine gl_nil ?_
            refine hK13 _ _ ?_
            clear hK13; try clear K13
            refine gc_cond_t rfl ?_
            refine gc_seq fun K14 hK14 => ?_
            refine gc_region ?_
            refine gl_op rfl rfl rfl (op_pure hT rfl) ?_
            refine gl_nil ?_
            refine hK14 _ _ ?_
            clear hK14; try clear K14
            refine gc_ret ?_
            try simp only [x_then_ret, x_block_ret]
            refine gk_ret1 rfl rfl ?_
            refine ⟨?_, hS.below⟩
            first
              | (rw [nameV_f1 (by rw [hr2]; simpa using c14)]; done)
              | (rw [nameV_f2 (by rw [hr1]; omega)]; done)
              | (rw [nameV_f3 (by rw [← hr, nmFrom_bad p24 (okP_f (by omega))])]; done)
              | (rw [nameV_t (by rw [hr2]; simpa using c14) (by rw [hr1]; omega) (by rw [← hr, nmFrom_end (by omega)])]; done)
              | trace_state
          · try simp only [decide_eq_true_eq, decide_eq_false_iff_not, Bool.not_eq_true', Bool.not_eq_false', Int.not_lt, Int.not_le, Nat.not_lt, Nat.not_le, Bool.true_eq, Bool.false_eq, reduceCtorEq] at c29
            refine gl_un rfl rfl rfl rfl ?_
            refine gl_op rfl rfl rfl (op_pure hT rfl) ?_
            refine gl_un rfl rfl rfl rfl ?_
            refine gl_op rfl rfl rfl (op_pure hT rfl) ?_
            refine gl_op rfl rfl rfl (op_pure hT rfl) ?_
            refine gl_op rfl rfl rfl (op_pure hT rfl) ?_
            refine gl_split (t := 33) rfl (fun c33 => ?_) (fun c33 => ?_)
            · try simp only [decide_eq_true_eq, decide_eq_false_iff_not, Bool.not_eq_true', Bool.not_eq_false', Int.not_lt, Int.not_le, Nat.not_lt, Nat.not_le, Bool.true_eq, Bool.false_eq, reduceCtorEq] at c33
              refine gl_pass rfl rfl rfl rfl rfl rfl ?_
              refine gl_pass rfl rfl rfl rfl rfl rfl ?_
              refine gl_pass rfl rfl rfl rfl rfl rfl ?_
              refine gl_none rfl rfl rfl rfl rfl ?_
              refine gl_none rfl rfl rfl rfl rfl ?_
              refine gl_pass rfl rfl rfl rfl rfl rfl ?_
              refine gl_op rfl rfl rfl (op_pure hT rfl) ?_
              refine gl_nil ?_
              refine hK13 _ _ ?_
              clear hK13; try clear K13
              refine gc_cond_t rfl ?_
              refine gc_seq fun K15 hK15 => ?_
              refine gc_region ?_
              refine gl_op rfl rfl rfl (op_pure hT rfl) ?_
              refine gl_nil ?_
              refine hK15 _ _ ?_
              clear hK15; try clear K15
              refine gc_ret ?_
              try simp only [x_then_ret, x_block_ret]
              refine gk_ret1 rfl rfl ?_
              refine ⟨?_, hS.below⟩
              first
                | (rw [nameV_f1 (by rw [hr2]; simpa using c14)]; done)
                | (rw [nameV_f2 (by rw [hr1]; omega)]; done)
                | (rw [nameV_f3 (by rw [← hr, nmFrom_bad p24 (okP_f (by omega))])]; done)
                | (rw [nameV_t (by rw [hr2]; simpa using c14) (by rw [hr1]; omega) (by rw [← hr, nmFrom_end (by omega)])]; done)
                | trace_state
            · try simp only [decide_eq_true_eq, decide_eq_false_iff_not, Bool.not_eq_true', Bool.not_eq_false', Int.not_lt, Int.not_le, Nat.not_lt, Nat.not_le, Bool.true_eq, Bool.false_eq, reduceCtorEq] at c33
              refine gl_un rfl rfl rfl rfl ?_
              refine gl_op rfl rfl rfl (op_pure hT rfl) ?_
              refine gl_un rfl rfl rfl rfl ?_
              refine gl_op rfl rfl rfl (op_pure hT rfl) ?_
              refine gl_un rfl rfl rfl rfl ?_
              refine gl_op rfl rfl rfl (op_pure hT rfl) ?_
              refine gl_split (t := 36) rfl (fun c36 => ?_) (fun c36 => ?_)
              · try simp only [decide_eq_true_eq, decide_eq_false_iff_not, Bool.not_eq_true', Bool.not_eq_false', Int.not_lt, Int.not_le, Nat.not_lt, Nat.not_le, Bool.true_eq, Bool.false_eq, reduceCtorEq] at c36
                refine gl_un rfl rfl rfl rfl ?_
                refine gl_op rfl rfl rfl (op_pure hT rfl) ?_
                refine gl_un rfl rfl rfl rfl ?_
                refine gl_op rfl rfl rfl (op_pure hT rfl) ?_
                refine gl_un rfl rfl rfl rfl ?_
                refine gl_op rfl rfl rfl (op_pure hT rfl) ?_
                refine gl_op rfl rfl rfl (op_pure hT rfl) ?_
                refine gl_nil ?_
                refine hK13 _ _ ?_
                clear hK13; try clear K13
                refine gc_cond rfl rfl (fun c40 => ?_) (fun c40 => ?_)
                · try simp only [decide_eq_true_eq, decide_eq_false_iff_not, Bool.not_eq_true', Bool.not_eq_false', Int.not_lt, Int.not_le, Nat.not_lt, Nat.not_le, Bool.true_eq, Bool.false_eq, reduceCtorEq] at c40
                  refine gc_seq fun K16 hK16 => ?_
                  refine gc_region ?_
                  refine gl_op rfl rfl rfl (op_pure hT rfl) ?_
                  refine gl_nil ?_
                  refine hK16 _ _ ?_
                  clear hK16; try clear K16
                  refine gc_ret ?_
                  try simp only [x_then_ret, x_block_ret]
                  refine gk_ret1 rfl rfl ?_
                  refine ⟨?_, hS.below⟩
                  first
                    | (rw [nameV_f1 (by rw [hr2]; simpa using c14)]; done)
                    | (rw [nameV_f2 (by rw [hr1]; omega)]; done)
                    | (rw [nameV_f3 (by rw [← hr, nmFrom_bad p24 (okP_f (by omega))])]; done)
                    | (rw [nameV_t (by rw [hr2]; simpa using c14) (by rw [hr1]; omega) (by rw [← hr, nmFrom_end (by omega)])]; done)
                    | trace_state
                · try simp only [decide_eq_true_eq, decide_eq_false_iff_not, Bool.not_eq_true', Bool.not_eq_false', Int.not_lt, Int.not_le, Nat.not_lt, Nat.not_le, Bool.true_eq, Bool.false_eq, reduceCtorEq] at c40
                  refine gc_skip ?_
                  intro a ha
                  have hmore := nmFrom_more (f := f) p24 (okP_t (by omega))
                  have hle : pos + (Utf8.decode s pos).2 ≤ s.size := decode_fit s pos p24
                  exact ⟨_, g, ha.sub ⟨rfl, trivial⟩, hle, by omega, by rw [← hr, hmore], hS⟩
              · try simp only [decide_eq_true_eq, decide_eq_false_iff_not, Bool.not_eq_true', Bool.not_eq_false', Int.not_lt, Int.not_le, Nat.not_lt, Nat.not_le, Bool.true_eq, Bool.false_eq, reduceCtorEq] at c36
                refine gl_pass rfl rfl rfl rfl rfl rfl ?_
                refine gl_pass rfl rfl rfl rfl rfl rfl ?_
                refine gl_un rfl rfl rfl rfl ?_
                refine gl_op rfl rfl rfl (op_pure hT rfl) ?_
                refine gl_op rfl rfl rfl (op_pure hT rfl) ?_
                refine gl_nil ?_
                refine hK13 _ _ ?_
                clear hK13; try clear K13
                refine gc_cond_f rfl ?_
                refine gc_skip ?_
                intro a ha
                have hmore := nmFrom_more (f := f) p24 (okP_t (by omega))
                have hle : pos + (Utf8.decode s pos).2 ≤ s.size := decode_fit s pos p24
                exact ⟨_, g, ha.sub ⟨rfl, trivial⟩, hle, by omega, by rw [← hr, hmore], hS⟩
        · skip
          refine gl_op rfl rfl rfl (op_pure hT rfl) ?_
          refine gl_nil ?_
          refine hK10 _ _ ?_
          clear hK10; try clear K10
          refine gc_seq fun K17 hK17 => ?_
          refine gc_cond_f rfl ?_
          refine gc_exit ?_
          refine hK8 _ _ ?_
          clear hK8; try clear K8
          refine gc_seq fun K18 hK18 => ?_
          refine gc_region ?_
          refine gl_op rfl rfl rfl (op_pure hT rfl) ?_
          refine gl_nil ?_
          refine hK18 _ _ ?_
          clear hK18; try clear K18
          refine gc_ret ?_
          try simp only [x_then_ret, x_block_ret]
          refine gk_ret1 rfl rfl ?_
          refine ⟨?_, hS.below⟩
          first
            | (rw [nameV_f1 (by rw [hr2]; simpa using c14)]; done)
            | (rw [nameV_f2 (by rw [hr1]; omega)]; done)
            | (rw [nameV_f3 (by rw [← hr, nmFrom_bad p24 (okP_f (by omega))])]; done)
            | (rw [nameV_t (by rw [hr2]; simpa using c14) (by rw [hr1]; omega) (by rw [← hr, nmFrom_end (by omega)])]; done)
            | trace_state
theorem rname_calls (s : ByteArray) (hs : s.size ≤ 4611686018427387904) (w : World) :
    Calls Tryd.prog 8 ⟨[.string s]⟩ w fun e w' => e = .returned (.bool (nameV s)) ∧ Below w.heap.size w w' := by
  refine gc_enter (N := 50) Tryd.func8 rfl rfl rfl [(0, _)] rfl ?_
  have hS := St.start w
  refine gc_seq fun K1 hK1 => ?_
  refine gc_region ?_
  refine gl_op rfl rfl rfl (op_pure hT rfl) ?_
  refine gl_nil ?_
  refine hK1 _ _ ?_
  clear hK1; try clear K1
  refine gc_seq fun K2 hK2 => ?_
  refine gc_region ?_
  refine gl_op rfl rfl rfl (op_pure hT rfl) ?_
  refine gl_callf rfl rfl rfl rfl Tryd.func19 rfl rfl rfl (rRunes_calls s hs _) ?_
  rintro _ w10 ⟨rfl, hb10⟩
  refine ⟨_, rfl, ?_⟩
  have hS := hS.grown hb10
  generalize hr1 : (runesV s).1 = r1
  generalize hr2 : (runesV s).2 = r2
  refine gl_op rfl rfl rfl (op_pure hT rfl) ?_
  refine gl_op rfl rfl rfl (op_pure hT rfl) ?_
  refine gl_op rfl rfl rfl (op_pure hT rfl) ?_
  refine gl_op rfl rfl rfl (op_pure hT rfl) ?_
  refine gl_op rfl rfl rfl (op_pure hT rfl) ?_
  refine gl_nil ?_
  refine hK2 _ _ ?_
  clear hK2; try clear K2
  refine gc_seq fun K3 hK3 => ?_
  refine gc_seq fun K4 hK4 => ?_
  refine gc_region ?_
  refine gl_op rfl rfl rfl (op_pure hT rfl) ?_
  refine gl_op rfl rfl rfl (op_pure hT rfl) ?_
  refine gl_op rfl rfl rfl (op_pure hT rfl) ?_
  refine gl_split (t := 15) rfl (fun c15 => ?_) (fun c15 => ?_)
  · try simp only [decide_eq_true_eq, decide_eq_false_iff_not, Bool.not_eq_true', Bool.not_eq_false', Int.not_lt, Int.not_le, Nat.not_lt, Nat.not_le, Bool.true_eq, Bool.false_eq, reduceCtorEq] at c15
    refine gl_pass rfl rfl rfl rfl rfl rfl ?_
    refine gl_pass rfl rfl rfl rfl rfl rfl ?_
    refine gl_op rfl rfl rfl (op_pure hT rfl) ?_
    refine gl_op rfl rfl rfl (op_pure hT rfl) ?_
    refine gl_pass rfl rfl rfl rfl rfl rfl ?_
    refine gl_pass rfl rfl rfl rfl rfl rfl ?_
    refine gl_op rfl rfl rfl (op_pure hT rfl) ?_
    refine gl_nil ?_
    refine hK4 _ _ ?_
    clear hK4; try clear K4
    refine gc_cond_t rfl ?_
    refine gc_seq fun K5 hK5 => ?_
    refine gc_region ?_
    refine gl_op rfl rfl rfl (op_pure hT rfl) ?_
    refine gl_nil ?_
    refine hK5 _ _ ?_
    clear hK5; try clear K5
    refine gc_ret ?_
    try simp only [x_then_ret, x_block_ret]
    refine gk_ret1 rfl rfl ?_
    refine ⟨?_, hS.below⟩
    first
      | (rw [nameV_f1 (by rw [hr2]; simpa using c15)]; done)
      | (rw [nameV_f2 (by rw [hr1]; omega)]; done)
      | (rw [nameV_f3 (by rw [← hr, nmFrom_bad hlt (okP_f (by omega))])]; done)
      | (rw [nameV_t (by rw [hr2]; simpa using c15) (by rw [hr1]; omega) (by rw [← hr, nmFrom_end (by omega)])]; done)
      | trace_state
  · try simp only [decide_eq_true_eq, decide_eq_false_iff_not, Bool.not_eq_true', Bool.not_eq_false', Int.not_lt, Int.not_le, Nat.not_lt, Nat.not_le, Bool.true_eq, Bool.false_eq, reduceCtorEq] at c15
    refine gl_un rfl rfl rfl rfl ?_
    refine gl_op rfl rfl rfl (op_pure hT rfl) ?_
    refine gl_un rfl rfl rfl rfl ?_
    refine gl_op rfl rfl rfl (op_pure hT rfl) ?_
    refine gl_op rfl rfl rfl (op_pure hT rfl) ?_
    refine gl_op rfl rfl rfl (op_pure hT rfl) ?_
    refine gl_split (t := 19) rfl (fun c19 => ?_) (fun c19 => ?_)
    · try simp only [decide_eq_true_eq, decide_eq_false_iff_not, Bool.not_eq_true', Bool.not_eq_false', Int.not_lt, Int.not_le, Nat.not_lt, Nat.not_le, Bool.true_eq, Bool.false_eq, reduceCtorEq] at c19
      refine gl_pass rfl rfl rfl rfl rfl rfl ?_
      refine gl_pass rfl rfl rfl rfl rfl rfl ?_
      refine gl_op rfl rfl rfl (op_pure hT rfl) ?_
      refine gl_nil ?_
      refine hK4 _ _ ?_
      clear hK4; try clear K4
      refine gc_cond_t rfl ?_
      refine gc_seq fun K6 hK6 => ?_
      refine gc_region ?_
      refine gl_op rfl rfl rfl (op_pure hT rfl) ?_
      refine gl_nil ?_
      refine hK6 _ _ ?_
      clear hK6; try clear K6
      refine gc_ret ?_
      try simp only [x_then_ret, x_block_ret]
      refine gk_ret1 rfl rfl ?_
      refine ⟨?_, hS.below⟩
      first
        | (rw [nameV_f1 (by rw [hr2]; simpa using c15)]; done)
        | (rw [nameV_f2 (by rw [hr1]; omega)]; done)
        | (rw [nameV_f3 (by rw [← hr, nmFrom_bad hlt (okP_f (by omega))])]; done)
        | (rw [nameV_t (by rw [hr2]; simpa using c15) (by rw [hr1]; omega) (by rw [← hr, nmFrom_end (by omega)])]; done)
        | trace_state
    · try simp only [decide_eq_true_eq, decide_eq_false_iff_not, Bool.not_eq_true', Bool.not_eq_false', Int.not_lt, Int.not_le, Nat.not_lt, Nat.not_le, Bool.true_eq, Bool.false_eq, reduceCtorEq] at c19
      refine gl_un rfl rfl rfl rfl ?_
      refine gl_op rfl rfl rfl (op_pure hT rfl) ?_
      refine gl_un rfl rfl rfl rfl ?_
      refine gl_op rfl rfl rfl (op_pure hT rfl) ?_
      refine gl_op rfl rfl rfl (op_pure hT rfl) ?_
      refine gl_nil ?_
      refine hK4 _ _ ?_
      clear hK4; try clear K4
      refine gc_cond rfl rfl (fun c22 => ?_) (fun c22 => ?_)
      · try simp only [decide_eq_true_eq, decide_eq_false_iff_not, Bool.not_eq_true', Bool.not_eq_false', Int.not_lt, Int.not_le, Nat.not_lt, Nat.not_le, Bool.true_eq, Bool.false_eq, reduceCtorEq] at c22
        refine gc_seq fun K7 hK7 => ?_
        refine gc_region ?_
        refine gl_op rfl rfl rfl (op_pure hT rfl) ?_
        refine gl_nil ?_
        refine hK7 _ _ ?_
        clear hK7; try clear K7
        refine gc_ret ?_
        try simp only [x_then_ret, x_block_ret]
        refine gk_ret1 rfl rfl ?_
        refine ⟨?_, hS.below⟩
        first
          | (rw [nameV_f1 (by rw [hr2]; simpa using c15)]; done)
          | (rw [nameV_f2 (by rw [hr1]; omega)]; done)
          | (rw [nameV_f3 (by rw [← hr, nmFrom_bad hlt (okP_f (by omega))])]; done)
          | (rw [nameV_t (by rw [hr2]; simpa using c15) (by rw [hr1]; omega) (by rw [← hr, nmFrom_end (by omega)])]; done)
          | trace_state
      · try simp only [decide_eq_true_eq, decide_eq_false_iff_not, Bool.not_eq_true', Bool.not_eq_false', Int.not_lt, Int.not_le, Nat.not_lt, Nat.not_le, Bool.true_eq, Bool.false_eq, reduceCtorEq] at c22
        refine gc_skip ?_
        refine hK3 _ _ ?_
        clear hK3; try clear K3
        refine gc_seq fun K8 hK8 => ?_
        refine gc_seq fun K9 hK9 => ?_
        refine gc_region ?_
        refine gl_op rfl rfl rfl (op_pure hT rfl) ?_
        refine gl_nil ?_
        refine hK9 _ _ ?_
        clear hK9; try clear K9
        refine gc_block ?_
        refine gc_loop (fun k a w' => ∃ (pos n : Nat), Fr 50 a [(0, .string s), (5, .int .i64 (pos : Nat))] ∧ pos ≤ s.size ∧ s.size < k + pos ∧ nmFrom s k pos = nmFrom s (s.size + 1) 0 ∧ runesFrom s k pos n = runesFrom s (s.size + 1) 0 0 ∧
          St w.heap.size w w' []) (s.size + 1) ?_ ?_ ?_
        · intro a ha; exact ⟨0, 0, ha.sub ⟨rfl, rfl, trivial⟩, by omega, by omega, rfl, rfl, hS⟩
        · rintro a w ⟨pos, n, _, h1, h2, _⟩; omega
        rintro f a w1 ⟨pos, n, hF, hpos, hf, hr, hrn, hS⟩
        refine gc_of hF ?_
        refine gc_seq fun K10 hK10 => ?_
        refine gc_seq fun K11 hK11 => ?_
        refine gc_region ?_
        refine gl_op rfl rfl rfl (op_pure hT rfl) ?_
        refine gl_op rfl rfl rfl (op_pure hT rfl) ?_
        refine gl_op rfl rfl rfl (op_pure hT rfl) ?_
        refine gl_op rfl rfl rfl (op_pure hT rfl) ?_
        refine gl_nil ?_
        refine hK11 _ _ ?_
        clear hK11; try clear K11
        refine gc_cond rfl rfl (fun c26 => ?_) (fun c26 => ?_)
        · try simp only [decide_eq_true_eq, decide_eq_false_iff_not, Bool.not_eq_true', Bool.not_eq_false', Int.not_lt, Int.not_le, Nat.not_lt, Nat.not_le, Bool.true_eq, Bool.false_eq, reduceCtorEq] at c26
          refine gc_skip ?_
          refine hK10 _ _ ?_
          clear hK10; try clear K10
          refine gc_block ?_
          refine gc_seq fun K12 hK12 => ?_
          refine gc_region ?_
          refine gl_op rfl rfl rfl (op_pure hT rfl) ?_
          refine gl_op rfl rfl rfl (op_pure hT rfl) ?_
          have hlt : pos < s.size := by omega
          have hw1 := Lib.decode_width_pos s pos hlt
          have hfit := decode_fit s pos hlt
          have hmore := fun h => runesFrom_more (f := f) (n := n) hlt h
          have hgood : ¬ badAt s pos := by
            intro hb
            have : runesV s = (0, false) := by unfold runesV; rw [← hrn, runesFrom_bad hlt hb.1 hb.2]
            rw [this] at hr2
            simp only at hr2
            rw [← hr2] at c15
            simp at c15
          have hdec : atV s pos = (((Utf8.decode s pos).1 : Int), ((Utf8.decode s pos).2 : Int)) := by
            rcases atV_decode s pos hlt with ⟨h, _⟩ | ⟨_, h⟩
            · exact absurd h hgood
            · exact h
          refine gl_callf rfl rfl rfl rfl Tryd.func20 rfl rfl rfl (At_calls s pos hlt hs _) ?_
          rintro _ w30 ⟨rfl, hb30⟩
          refine ⟨_, rfl, ?_⟩
          have hS := hS.grown hb30
          rw [hdec]
          refine gl_op rfl rfl rfl (op_pure hT rfl) ?_
          refine gl_op rfl rfl rfl (op_pure hT rfl) ?_
          refine gl_op rfl rfl rfl (op_pure hT rfl) ?_
          refine gl_op rfl rfl rfl (op_pure hT rfl) ?_
          refine gl_op rfl rfl rfl (op_pure hT rfl) ?_
          refine gl_nil ?_
          refine hK12 _ _ ?_
          clear hK12; try clear K12
          refine gc_seq fun K13 hK13 => ?_
          refine gc_seq fun K14 hK14 => ?_
          refine gc_region ?_
          refine gl_op rfl rfl rfl (op_pure hT rfl) ?_
          refine gl_op rfl rfl rfl (op_pure hT rfl) ?_
          refine gl_op rfl rfl rfl (op_pure hT rfl) ?_
          refine gl_split (t := 35) rfl (fun c35 => ?_) (fun c35 => ?_)
          · try simp only [decide_eq_true_eq, decide_eq_false_iff_not, Bool.not_eq_true', Bool.not_eq_false', Int.not_lt, Int.not_le, Nat.not_lt, Nat.not_le, Bool.true_eq, Bool.false_eq, reduceCtorEq] at c35
            refine gl_pass rfl rfl rfl rfl rfl rfl ?_
            refine gl_pass rfl rfl rfl rfl rfl rfl ?_
            refine gl_op rfl rfl rfl (op_pure hT rfl) ?_
            refine gl_op rfl rfl rfl (op_pure hT rfl) ?_
            refine gl_pass rfl rfl rfl rfl rfl rfl ?_
            refine gl_pass rfl rfl rfl rfl rfl rfl ?_
            refine gl_pass rfl rfl rfl rfl rfl rfl ?_
            refine gl_none rfl rfl rfl rfl rfl ?_
            refine gl_none rfl rfl rfl rfl rfl ?_
            refine gl_pass rfl rfl rfl rfl rfl rfl ?_
            refine gl_op rfl rfl rfl (op_pure hT rfl) ?_
            refine gl_nil ?_
            refine hK14 _ _ ?_
            clear hK14; try clear K14
            refine gc_cond_t rfl ?_
            refine gc_seq fun K15 hK15 => ?_
            refine gc_region ?_
            refine gl_op rfl rfl rfl (op_pure hT rfl) ?_
            refine gl_nil ?_
            refine hK15 _ _ ?_
            clear hK15; try clear K15
            refine gc_ret ?_
            try simp only [x_then_ret, x_block_ret]
            refine gk_ret1 rfl rfl ?_
            refine ⟨?_, hS.below⟩
            first
              | (rw [nameV_f1 (by rw [hr2]; simpa using c15)]; done)
              | (rw [nameV_f2 (by rw [hr1]; omega)]; done)
              | (rw [nameV_f3 (by rw [← hr, nmFrom_bad hlt (okP_f (by omega))])]; done)
              | (rw [nameV_t (by rw [hr2]; simpa using c15) (by rw [hr1]; omega) (by rw [← hr, nmFrom_end (by omega)])]; done)
              | trace_state
          · try simp only [decide_eq_true_eq, decide_eq_false_iff_not, Bool.not_eq_true', Bool.not_eq_false', Int.not_lt, Int.not_le, Nat.not_lt, Nat.not_le, Bool.true_eq, Bool.false_eq, reduceCtorEq] at c35
            refine gl_un rfl rfl rfl rfl ?_
            refine gl_op rfl rfl rfl (op_pure hT rfl) ?_
            refine gl_un rfl rfl rfl rfl ?_
            refine gl_op rfl rfl rfl (op_pure hT rfl) ?_
            refine gl_op rfl rfl rfl (op_pure hT rfl) ?_
            refine gl_op rfl rfl rfl (op_pure hT rfl) ?_
            refine gl_split (t := 39) rfl (fun c39 => ?_) (fun c39 => ?_)
            · try simp only [decide_eq_true_eq, decide_eq_false_iff_not, Bool.not_eq_true', Bool.not_eq_false', Int.not_lt, Int.not_le, Nat.not_lt, Nat.not_le, Bool.true_eq, Bool.false_eq, reduceCtorEq] at c39
              refine gl_pass rfl rfl rfl rfl rfl rfl ?_
              refine gl_pass rfl rfl rfl rfl rfl rfl ?_
              refine gl_pass rfl rfl rfl rfl rfl rfl ?_
              refine gl_none rfl rfl rfl rfl rfl ?_
              refine gl_none rfl rfl rfl rfl rfl ?_
              refine gl_pass rfl rfl rfl rfl rfl rfl ?_
              refine gl_op rfl rfl rfl (op_pure hT rfl) ?_
              refine gl_nil ?_
              refine hK14 _ _ ?_
              clear hK14; try clear K14
              refine gc_cond_t rfl ?_
              refine gc_seq fun K16 hK16 => ?_
              refine gc_region ?_
              refine gl_op rfl rfl rfl (op_pure hT rfl) ?_
              refine gl_nil ?_
              refine hK16 _ _ ?_
              clear hK16; try clear K16
              refine gc_ret ?_
              try simp only [x_then_ret, x_block_ret]
              refine gk_ret1 rfl rfl ?_
              refine ⟨?_, hS.below⟩
              first
                | (rw [nameV_f1 (by rw [hr2]; simpa using c15)]; done)
                | (rw [nameV_f2 (by rw [hr1]; omega)]; done)
                | (rw [nameV_f3 (by rw [← hr, nmFrom_bad hlt (okP_f (by omega))])]; done)
                | (rw [nameV_t (by rw [hr2]; simpa using c15) (by rw [hr1]; omega) (by rw [← hr, nmFrom_end (by omega)])]; done)
                | trace_state
            · try simp only [decide_eq_true_eq, decide_eq_false_iff_not, Bool.not_eq_true', Bool.not_eq_false', Int.not_lt, Int.not_le, Nat.not_lt, Nat.not_le, Bool.true_eq, Bool.false_eq, reduceCtorEq] at c39
              refine gl_un rfl rfl rfl rfl ?_
              refine gl_op rfl rfl rfl (op_pure hT rfl) ?_
              refine gl_un rfl rfl rfl rfl ?_
              refine gl_op rfl rfl rfl (op_pure hT rfl) ?_
              refine gl_un rfl rfl rfl rfl ?_
              refine gl_op rfl rfl rfl (op_pure hT rfl) ?_
              refine gl_split (t := 42) rfl (fun c42 => ?_) (fun c42 => ?_)
              · try simp only [decide_eq_true_eq, decide_eq_false_iff_not, Bool.not_eq_true', Bool.not_eq_false', Int.not_lt, Int.not_le, Nat.not_lt, Nat.not_le, Bool.true_eq, Bool.false_eq, reduceCtorEq] at c42
                refine gl_un rfl rfl rfl rfl ?_
                refine gl_op rfl rfl rfl (op_pure hT rfl) ?_
                refine gl_un rfl rfl rfl rfl ?_
                refine gl_op rfl rfl rfl (op_pure hT rfl) ?_
                refine gl_un rfl rfl rfl rfl ?_
                refine gl_op rfl rfl rfl (op_pure hT rfl) ?_
                refine gl_op rfl rfl rfl (op_pure hT rfl) ?_
                refine gl_nil ?_
                refine hK14 _ _ ?_
                clear hK14; try clear K14
                refine gc_cond rfl rfl (fun c46 => ?_) (fun c46 => ?_)
                · try simp only [decide_eq_true_eq, decide_eq_false_iff_not, Bool.not_eq_true', Bool.not_eq_false', Int.not_lt, Int.not_le, Nat.not_lt, Nat.not_le, Bool.true_eq, Bool.false_eq, reduceCtorEq] at c46
                  refine gc_seq fun K17 hK17 => ?_
                  refine gc_region ?_
                  refine gl_op rfl rfl rfl (op_pure hT rfl) ?_
                  refine gl_nil ?_
                  refine hK17 _ _ ?_
                  clear hK17; try clear K17
                  refine gc_ret ?_
                  try simp only [x_then_ret, x_block_ret]
                  refine gk_ret1 rfl rfl ?_
                  refine ⟨?_, hS.below⟩
                  first
                    | (rw [nameV_f1 (by rw [hr2]; simpa using c15)]; done)
                    | (rw [nameV_f2 (by rw [hr1]; omega)]; done)
                    | (rw [nameV_f3 (by rw [← hr, nmFrom_bad hlt (okP_f (by omega))])]; done)
                    | (rw [nameV_t (by rw [hr2]; simpa using c15) (by rw [hr1]; omega) (by rw [← hr, nmFrom_end (by omega)])]; done)
                    | trace_state
                · try simp only [decide_eq_true_eq, decide_eq_false_iff_not, Bool.not_eq_true', Bool.not_eq_false', Int.not_lt, Int.not_le, Nat.not_lt, Nat.not_le, Bool.true_eq, Bool.false_eq, reduceCtorEq] at c46
                  refine gc_skip ?_
                  refine hK13 _ _ ?_
                  clear hK13; try clear K13
                  refine gc_region ?_
                  refine gl_op rfl rfl rfl (op_pure hT rfl) ?_
                  refine gl_op rfl rfl rfl (op_pure hT rfl) ?_
                  first | refine gl_fit hT rfl rfl rfl rfl (by omega) ?_ | refine gl_op rfl rfl rfl (op_pure hT rfl) ?_
                  refine gl_op rfl rfl rfl (op_pure hT rfl) ?_
                  refine gl_nil ?_
                  intro a ha
                  have hm2 := nmFrom_more (f := f) hlt (okP_t (by omega))
                  exact ⟨pos + (Utf8.decode s pos).2, n + 1, ha.sub ⟨rfl, rfl, trivial⟩, hfit, by omega, by rw [← hr, hm2], by rw [← hrn, hmore hgood], hS⟩
              · try simp only [decide_eq_true_eq, decide_eq_false_iff_not, Bool.not_eq_true', Bool.not_eq_false', Int.not_lt, Int.not_le, Nat.not_lt, Nat.not_le, Bool.true_eq, Bool.false_eq, reduceCtorEq] at c42
                refine gl_pass rfl rfl rfl rfl rfl rfl ?_
                refine gl_pass rfl rfl rfl rfl rfl rfl ?_
                refine gl_un rfl rfl rfl rfl ?_
                refine gl_op rfl rfl rfl (op_pure hT rfl) ?_
                refine gl_op rfl rfl rfl (op_pure hT rfl) ?_
                refine gl_nil ?_
                refine hK14 _ _ ?_
                clear hK14; try clear K14
                refine gc_cond_f rfl ?_
                refine gc_skip ?_
                refine hK13 _ _ ?_
                clear hK13; try clear K13
                refine gc_region ?_
                refine gl_op rfl rfl rfl (op_pure hT rfl) ?_
                refine gl_op rfl rfl rfl (op_pure hT rfl) ?_
                first | refine gl_fit hT rfl rfl rfl rfl (by omega) ?_ | refine gl_op rfl rfl rfl (op_pure hT rfl) ?_
                refine gl_op rfl rfl rfl (op_pure hT rfl) ?_
                refine gl_nil ?_
                intro a ha
                have hm2 := nmFrom_more (f := f) hlt (okP_t (by omega))
                exact ⟨pos + (Utf8.decode s pos).2, n + 1, ha.sub ⟨rfl, rfl, trivial⟩, hfit, by omega, by rw [← hr, hm2], by rw [← hrn, hmore hgood], hS⟩
        · try simp only [decide_eq_true_eq, decide_eq_false_iff_not, Bool.not_eq_true', Bool.not_eq_false', Int.not_lt, Int.not_le, Nat.not_lt, Nat.not_le, Bool.true_eq, Bool.false_eq, reduceCtorEq] at c26
          refine gc_exit ?_
          refine hK8 _ _ ?_
          clear hK8; try clear K8
          refine gc_seq fun K18 hK18 => ?_
          refine gc_region ?_
          refine gl_op rfl rfl rfl (op_pure hT rfl) ?_
          refine gl_nil ?_
          refine hK18 _ _ ?_
          clear hK18; try clear K18
          refine gc_ret ?_
          try simp only [x_then_ret, x_block_ret]
          refine gk_ret1 rfl rfl ?_
          refine ⟨?_, hS.below⟩
          first
            | (rw [nameV_f1 (by rw [hr2]; simpa using c15)]; done)
            | (rw [nameV_f2 (by rw [hr1]; omega)]; done)
            | (rw [nameV_f3 (by rw [← hr, nmFrom_bad hlt (okP_f (by omega))])]; done)
            | (rw [nameV_t (by rw [hr2]; simpa using c15) (by rw [hr1]; omega) (by rw [← hr, nmFrom_end (by omega)])]; done)
            | trace_state
end Go.Proofs.YtkfhablonnjgeaaDoor
