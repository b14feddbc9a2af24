/- Contracts of code points. No condition. -/
import Derived.Test.YtpeomdobcobdiaaDoorW9
import Derived.Test.YtpeomdobcobdiaaDoorPt
import Derived.Test.YtpeomdobcobdiaaDoorLibG
namespace Go.Proofs.YtpeomdobcobdiaaDoor
open Go.RowKit
set_option linter.unusedVariables false
set_option linter.unusedSimpArgs false
theorem u8_of {x : Int} (h0 : 0 ≤ x) (h1 : x < 256) : Value.int .u8 (IntKind.u8.wrap x) = uB (toB x) := by
  rw [IntKind.wrap_u8, Int.emod_eq_of_lt h0 h1, uB_toB h0 h1]
theorem owns_nil {w : World} {B : Nat} {el : TypeId} {sz : Nat} : Owns w B none 0 el sz 0 [] := ⟨by simp, .inl ⟨rfl, rfl, rfl⟩⟩
theorem low_calls (s : ByteArray) (i : Nat) (hs : s.size ≤ 4611686018427387904) (w : World) :
    Calls Tryd.prog 66 ⟨[.string s, .int .i64 i]⟩ w fun e w' => e = .returned (.int .i64 (lowV s i)) ∧ w = w' := by
  have hb : btAt s i = bN s i := rfl
  have hl := bN_lt s i
  refine gc_enter (N := 26) Tryd.func66 rfl rfl rfl [(0, _), (1, _)] rfl ?_
  refine gc_seq fun K1 hK1 => ?_
  refine gc_region ?_
  refine gl_op rfl rfl rfl (op_pure hT rfl) ?_
  refine gl_nil ?_
  refine hK1 _ _ ?_
  clear hK1; try clear K1
  refine gc_seq fun K2 hK2 => ?_
  refine gc_seq fun K3 hK3 => ?_
  refine gc_region ?_
  refine gl_op rfl rfl rfl (op_pure hT rfl) ?_
  refine gl_op rfl rfl rfl (op_pure hT rfl) ?_
  refine gl_op rfl rfl rfl (op_pure hT rfl) ?_
  refine gl_op rfl rfl rfl (op_pure hT rfl) ?_
  refine gl_op rfl rfl rfl (op_pure hT rfl) ?_
  refine gl_split (t := 9) rfl (fun c9 => ?_) (fun c9 => ?_)
  · try simp only [decide_eq_true_eq, decide_eq_false_iff_not, Bool.not_eq_true', Bool.not_eq_false', Int.not_lt, Int.not_le, Nat.not_lt, Nat.not_le, Bool.true_eq, Bool.false_eq, reduceCtorEq] at c9
    refine gl_pass rfl rfl rfl rfl rfl rfl ?_
    refine gl_pass rfl rfl rfl rfl rfl rfl ?_
    refine gl_pass rfl rfl rfl rfl rfl rfl ?_
    refine gl_pass rfl rfl rfl rfl rfl rfl ?_
    refine gl_op rfl rfl rfl (op_pure hT rfl) ?_
    refine gl_op rfl rfl rfl (op_pure hT rfl) ?_
    refine gl_pass rfl rfl rfl rfl rfl rfl ?_
    refine gl_pass rfl rfl rfl rfl rfl rfl ?_
    refine gl_pass rfl rfl rfl rfl rfl rfl ?_
    refine gl_pass rfl rfl rfl rfl rfl rfl ?_
    refine gl_op rfl rfl rfl (op_pure hT rfl) ?_
    refine gl_nil ?_
    refine hK3 _ _ ?_
    clear hK3; try clear K3
    refine gc_cond_t rfl ?_
    refine gc_seq fun K4 hK4 => ?_
    refine gc_region ?_
    refine gl_op rfl rfl rfl (op_pure hT rfl) ?_
    refine gl_nil ?_
    refine hK4 _ _ ?_
    clear hK4; try clear K4
    refine gc_ret ?_
    try simp only [x_then_ret, x_block_ret]
    refine gk_ret1 rfl rfl ?_
    refine ⟨?_, rfl⟩
    first
      | (unfold lowV; rw [if_pos (by omega)])
      | (unfold lowV; rw [if_neg (by omega)])
      | (have e1 : lowV s i = bN s i - 128 := by unfold lowV; rw [if_neg (by omega)]
         rw [e1]; rfl)
  · try simp only [decide_eq_true_eq, decide_eq_false_iff_not, Bool.not_eq_true', Bool.not_eq_false', Int.not_lt, Int.not_le, Nat.not_lt, Nat.not_le, Bool.true_eq, Bool.false_eq, reduceCtorEq] at c9
    refine gl_un rfl rfl rfl rfl ?_
    refine gl_op rfl rfl rfl (op_pure hT rfl) ?_
    refine gl_un rfl rfl rfl rfl ?_
    refine gl_op rfl rfl rfl (op_pure hT rfl) ?_
    refine gl_un rfl rfl rfl rfl ?_
    refine gl_op rfl rfl rfl (op_index hT rfl rfl rfl rfl (by omega) (by omega)) ?_
    refine gl_un rfl rfl rfl rfl ?_
    refine gl_op rfl rfl rfl (op_pure hT rfl) ?_
    refine gl_op rfl rfl rfl (op_pure hT rfl) ?_
    refine gl_op rfl rfl rfl (op_pure hT rfl) ?_
    refine gl_split (t := 15) rfl (fun c15 => ?_) (fun c15 => ?_)
    · try simp only [decide_eq_true_eq, decide_eq_false_iff_not, Bool.not_eq_true', Bool.not_eq_false', Int.not_lt, Int.not_le, Nat.not_lt, Nat.not_le, Bool.true_eq, Bool.false_eq, reduceCtorEq] at c15
      refine gl_pass rfl rfl rfl rfl rfl rfl ?_
      refine gl_pass rfl rfl rfl rfl rfl rfl ?_
      refine gl_pass rfl rfl rfl rfl rfl rfl ?_
      refine gl_pass rfl rfl rfl rfl rfl rfl ?_
      refine gl_op rfl rfl rfl (op_pure hT rfl) ?_
      refine gl_nil ?_
      refine hK3 _ _ ?_
      clear hK3; try clear K3
      refine gc_cond_t rfl ?_
      refine gc_seq fun K5 hK5 => ?_
      refine gc_region ?_
      refine gl_op rfl rfl rfl (op_pure hT rfl) ?_
      refine gl_nil ?_
      refine hK5 _ _ ?_
      clear hK5; try clear K5
      refine gc_ret ?_
      try simp only [x_then_ret, x_block_ret]
      refine gk_ret1 rfl rfl ?_
      refine ⟨?_, rfl⟩
      first
        | (unfold lowV; rw [if_pos (by omega)])
        | (unfold lowV; rw [if_neg (by omega)])
        | (have e1 : lowV s i = bN s i - 128 := by unfold lowV; rw [if_neg (by omega)]
           rw [e1]; rfl)
    · try simp only [decide_eq_true_eq, decide_eq_false_iff_not, Bool.not_eq_true', Bool.not_eq_false', Int.not_lt, Int.not_le, Nat.not_lt, Nat.not_le, Bool.true_eq, Bool.false_eq, reduceCtorEq] at c15
      refine gl_un rfl rfl rfl rfl ?_
      refine gl_op rfl rfl rfl (op_pure hT rfl) ?_
      refine gl_un rfl rfl rfl rfl ?_
      refine gl_op rfl rfl rfl (op_pure hT rfl) ?_
      refine gl_un rfl rfl rfl rfl ?_
      refine gl_op rfl rfl rfl (op_index hT rfl rfl rfl rfl (by omega) (by omega)) ?_
      refine gl_un rfl rfl rfl rfl ?_
      refine gl_op rfl rfl rfl (op_pure hT rfl) ?_
      refine gl_op rfl rfl rfl (op_pure hT rfl) ?_
      refine gl_nil ?_
      refine hK3 _ _ ?_
      clear hK3; try clear K3
      refine gc_cond rfl rfl (fun c20 => ?_) (fun c20 => ?_)
      · try simp only [decide_eq_true_eq, decide_eq_false_iff_not, Bool.not_eq_true', Bool.not_eq_false', Int.not_lt, Int.not_le, Nat.not_lt, Nat.not_le, Bool.true_eq, Bool.false_eq, reduceCtorEq] at c20
        refine gc_seq fun K6 hK6 => ?_
        refine gc_region ?_
        refine gl_op rfl rfl rfl (op_pure hT rfl) ?_
        refine gl_nil ?_
        refine hK6 _ _ ?_
        clear hK6; try clear K6
        refine gc_ret ?_
        try simp only [x_then_ret, x_block_ret]
        refine gk_ret1 rfl rfl ?_
        refine ⟨?_, rfl⟩
        first
          | (unfold lowV; rw [if_pos (by omega)])
          | (unfold lowV; rw [if_neg (by omega)])
          | (have e1 : lowV s i = bN s i - 128 := by unfold lowV; rw [if_neg (by omega)]
             rw [e1]; rfl)
      · try simp only [decide_eq_true_eq, decide_eq_false_iff_not, Bool.not_eq_true', Bool.not_eq_false', Int.not_lt, Int.not_le, Nat.not_lt, Nat.not_le, Bool.true_eq, Bool.false_eq, reduceCtorEq] at c20
        refine gc_skip ?_
        refine hK2 _ _ ?_
        clear hK2; try clear K2
        refine gc_seq fun K7 hK7 => ?_
        refine gc_region ?_
        refine gl_op rfl rfl rfl (op_pure hT rfl) ?_
        refine gl_op rfl rfl rfl (op_pure hT rfl) ?_
        refine gl_op rfl rfl rfl (op_index hT rfl rfl rfl rfl (by omega) (by omega)) ?_
        refine gl_op rfl rfl rfl (op_pure hT rfl) ?_
        refine gl_spell 24 (v := .int .i64 (bN s i : Nat)) rfl (by rw [hb, wrap_i64 (by omega)]) ?_
        first | refine gl_fit hT rfl rfl rfl rfl (by omega) ?_ | refine gl_op rfl rfl rfl (op_pure hT rfl) ?_
        refine gl_op rfl rfl rfl (op_pure hT rfl) ?_
        refine gl_nil ?_
        refine hK7 _ _ ?_
        clear hK7; try clear K7
        refine gc_ret ?_
        try simp only [x_then_ret, x_block_ret]
        refine gk_ret1 rfl rfl ?_
        refine ⟨?_, rfl⟩
        first
          | (unfold lowV; rw [if_pos (by omega)])
          | (unfold lowV; rw [if_neg (by omega)])
          | (have e1 : lowV s i = bN s i - 128 := by unfold lowV; rw [if_neg (by omega)]
             rw [e1]; rfl)
theorem Point_calls (p : Int) (hp : -9223372036854775808 ≤ p ∧ p ≤ 9223372036854775807) (w : World) :
    Calls Tryd.prog 24 ⟨[.int .i64 p]⟩ w fun e w' => ∃ A c, e = .returned (.slice A (pointB p).length c) ∧ Owns w' w.heap.size A c 5 1 (pointB p).length ((pointB p).map uB) ∧ Below w.heap.size w w' := by
  refine gc_enter (N := 72) Tryd.func24 rfl rfl rfl [(0, _)] rfl ?_
  have hS := St.start w
  refine gc_seq fun K1 hK1 => ?_
  refine gc_region ?_
  refine gl_op rfl rfl rfl (op_pure hT rfl) ?_
  refine gl_nil ?_
  refine hK1 _ _ ?_
  clear hK1; try clear K1
  refine gc_seq fun K2 hK2 => ?_
  refine gc_block ?_
  refine gc_seq fun K3 hK3 => ?_
  refine gc_region ?_
  refine gl_op rfl rfl rfl (op_pure hT rfl) ?_
  refine gl_op rfl rfl rfl (op_pure hT rfl) ?_
  refine gl_op rfl rfl rfl (op_pure hT rfl) ?_
  refine gl_split (t := 6) rfl (fun c6 => ?_) (fun c6 => ?_)
  · try simp only [decide_eq_true_eq, decide_eq_false_iff_not, Bool.not_eq_true', Bool.not_eq_false', Int.not_lt, Int.not_le, Nat.not_lt, Nat.not_le, Bool.true_eq, Bool.false_eq, reduceCtorEq] at c6
    refine gl_pass rfl rfl rfl rfl rfl rfl ?_
    refine gl_pass rfl rfl rfl rfl rfl rfl ?_
    refine gl_op rfl rfl rfl (op_pure hT rfl) ?_
    refine gl_op rfl rfl rfl (op_pure hT rfl) ?_
    refine gl_pass rfl rfl rfl rfl rfl rfl ?_
    refine gl_pass rfl rfl rfl rfl rfl rfl ?_
    refine gl_pass rfl rfl rfl rfl rfl rfl ?_
    refine gl_none rfl rfl rfl rfl rfl ?_
    refine gl_none rfl rfl rfl rfl rfl ?_
    refine gl_pass rfl rfl rfl rfl rfl rfl ?_
    refine gl_op rfl rfl rfl (op_pure hT rfl) ?_
    refine gl_op rfl rfl rfl (op_pure hT rfl) ?_
    refine gl_nil ?_
    refine hK3 _ _ ?_
    clear hK3; try clear K3
    refine gc_cond_t rfl ?_
    refine gc_seq fun K4 hK4 => ?_
    refine gc_region ?_
    refine gl_op rfl rfl rfl (op_pure hT rfl) ?_
    refine gl_nil ?_
    refine hK4 _ _ ?_
    clear hK4; try clear K4
    refine gc_ret ?_
    try simp only [x_then_ret, x_block_ret]
    refine gk_ret1 rfl rfl ?_
    first
      | (rw [pointB_none (by omega)]; exact ⟨none, 0, rfl, owns_nil, hS.below⟩)
      | (rw [pointB_1 (by omega) (by omega)]
         obtain ⟨h2, h3⟩ := hS.out (i := 0) rfl
         rw [u8_of (by omega) (by omega)] at h2
         exact ⟨_, _, rfl, h2, h3⟩)
      | (rw [pointB_2 (by omega) (by omega)]
         obtain ⟨h2, h3⟩ := hS.out (i := 0) rfl
         rw [u8_of (by omega) (by omega), u8_of (by omega) (by omega)] at h2
         exact ⟨_, _, rfl, h2, h3⟩)
      | (rw [pointB_3 (by omega) (by omega) (by omega)]
         obtain ⟨h2, h3⟩ := hS.out (i := 0) rfl
         rw [u8_of (by omega) (by omega), u8_of (by omega) (by omega), u8_of (by omega) (by omega)] at h2
         exact ⟨_, _, rfl, h2, h3⟩)
      | (rw [pointB_4 (by omega) (by omega)]
         obtain ⟨h2, h3⟩ := hS.out (i := 0) rfl
         rw [u8_of (by omega) (by omega), u8_of (by omega) (by omega), u8_of (by omega) (by omega), u8_of (by omega) (by omega)] at h2
         exact ⟨_, _, rfl, h2, h3⟩)
  · try simp only [decide_eq_true_eq, decide_eq_false_iff_not, Bool.not_eq_true', Bool.not_eq_false', Int.not_lt, Int.not_le, Nat.not_lt, Nat.not_le, Bool.true_eq, Bool.false_eq, reduceCtorEq] at c6
    refine gl_un rfl rfl rfl rfl ?_
    refine gl_op rfl rfl rfl (op_pure hT rfl) ?_
    refine gl_un rfl rfl rfl rfl ?_
    refine gl_op rfl rfl rfl (op_pure hT rfl) ?_
    refine gl_op rfl rfl rfl (op_pure hT rfl) ?_
    refine gl_op rfl rfl rfl (op_pure hT rfl) ?_
    refine gl_split (t := 10) rfl (fun c10 => ?_) (fun c10 => ?_)
    · try simp only [decide_eq_true_eq, decide_eq_false_iff_not, Bool.not_eq_true', Bool.not_eq_false', Int.not_lt, Int.not_le, Nat.not_lt, Nat.not_le, Bool.true_eq, Bool.false_eq, reduceCtorEq] at c10
      refine gl_pass rfl rfl rfl rfl rfl rfl ?_
      refine gl_pass rfl rfl rfl rfl rfl rfl ?_
      refine gl_pass rfl rfl rfl rfl rfl rfl ?_
      refine gl_none rfl rfl rfl rfl rfl ?_
      refine gl_none rfl rfl rfl rfl rfl ?_
      refine gl_pass rfl rfl rfl rfl rfl rfl ?_
      refine gl_op rfl rfl rfl (op_pure hT rfl) ?_
      refine gl_op rfl rfl rfl (op_pure hT rfl) ?_
      refine gl_nil ?_
      refine hK3 _ _ ?_
      clear hK3; try clear K3
      refine gc_cond_t rfl ?_
      refine gc_seq fun K5 hK5 => ?_
      refine gc_region ?_
      refine gl_op rfl rfl rfl (op_pure hT rfl) ?_
      refine gl_nil ?_
      refine hK5 _ _ ?_
      clear hK5; try clear K5
      refine gc_ret ?_
      try simp only [x_then_ret, x_block_ret]
      refine gk_ret1 rfl rfl ?_
      first
        | (rw [pointB_none (by omega)]; exact ⟨none, 0, rfl, owns_nil, hS.below⟩)
        | (rw [pointB_1 (by omega) (by omega)]
           obtain ⟨h2, h3⟩ := hS.out (i := 0) rfl
           rw [u8_of (by omega) (by omega)] at h2
           exact ⟨_, _, rfl, h2, h3⟩)
        | (rw [pointB_2 (by omega) (by omega)]
           obtain ⟨h2, h3⟩ := hS.out (i := 0) rfl
           rw [u8_of (by omega) (by omega), u8_of (by omega) (by omega)] at h2
           exact ⟨_, _, rfl, h2, h3⟩)
        | (rw [pointB_3 (by omega) (by omega) (by omega)]
           obtain ⟨h2, h3⟩ := hS.out (i := 0) rfl
           rw [u8_of (by omega) (by omega), u8_of (by omega) (by omega), u8_of (by omega) (by omega)] at h2
           exact ⟨_, _, rfl, h2, h3⟩)
        | (rw [pointB_4 (by omega) (by omega)]
           obtain ⟨h2, h3⟩ := hS.out (i := 0) rfl
           rw [u8_of (by omega) (by omega), u8_of (by omega) (by omega), u8_of (by omega) (by omega), u8_of (by omega) (by omega)] at h2
           exact ⟨_, _, rfl, h2, h3⟩)
    · try simp only [decide_eq_true_eq, decide_eq_false_iff_not, Bool.not_eq_true', Bool.not_eq_false', Int.not_lt, Int.not_le, Nat.not_lt, Nat.not_le, Bool.true_eq, Bool.false_eq, reduceCtorEq] at c10
      refine gl_un rfl rfl rfl rfl ?_
      refine gl_op rfl rfl rfl (op_pure hT rfl) ?_
      refine gl_un rfl rfl rfl rfl ?_
      refine gl_op rfl rfl rfl (op_pure hT rfl) ?_
      refine gl_un rfl rfl rfl rfl ?_
      refine gl_op rfl rfl rfl (op_pure hT rfl) ?_
      refine gl_split (t := 13) rfl (fun c13 => ?_) (fun c13 => ?_)
      · try simp only [decide_eq_true_eq, decide_eq_false_iff_not, Bool.not_eq_true', Bool.not_eq_false', Int.not_lt, Int.not_le, Nat.not_lt, Nat.not_le, Bool.true_eq, Bool.false_eq, reduceCtorEq] at c13
        refine gl_un rfl rfl rfl rfl ?_
        refine gl_op rfl rfl rfl (op_pure hT rfl) ?_
        refine gl_un rfl rfl rfl rfl ?_
        refine gl_op rfl rfl rfl (op_pure hT rfl) ?_
        refine gl_un rfl rfl rfl rfl ?_
        refine gl_op rfl rfl rfl (op_pure hT rfl) ?_
        refine gl_op rfl rfl rfl (op_pure hT rfl) ?_
        refine gl_op rfl rfl rfl (op_pure hT rfl) ?_
        refine gl_nil ?_
        refine hK3 _ _ ?_
        clear hK3; try clear K3
        refine gc_cond rfl rfl (fun c3 => ?_) (fun c3 => ?_)
        · try simp only [decide_eq_true_eq, decide_eq_false_iff_not, Bool.not_eq_true', Bool.not_eq_false', Int.not_lt, Int.not_le, Nat.not_lt, Nat.not_le, Bool.true_eq, Bool.false_eq, reduceCtorEq] at c3
          refine gc_seq fun K6 hK6 => ?_
          refine gc_region ?_
          refine gl_op rfl rfl rfl (op_pure hT rfl) ?_
          refine gl_nil ?_
          refine hK6 _ _ ?_
          clear hK6; try clear K6
          refine gc_ret ?_
          try simp only [x_then_ret, x_block_ret]
          refine gk_ret1 rfl rfl ?_
          first
            | (rw [pointB_none (by omega)]; exact ⟨none, 0, rfl, owns_nil, hS.below⟩)
            | (rw [pointB_1 (by omega) (by omega)]
               obtain ⟨h2, h3⟩ := hS.out (i := 0) rfl
               rw [u8_of (by omega) (by omega)] at h2
               exact ⟨_, _, rfl, h2, h3⟩)
            | (rw [pointB_2 (by omega) (by omega)]
               obtain ⟨h2, h3⟩ := hS.out (i := 0) rfl
               rw [u8_of (by omega) (by omega), u8_of (by omega) (by omega)] at h2
               exact ⟨_, _, rfl, h2, h3⟩)
            | (rw [pointB_3 (by omega) (by omega) (by omega)]
               obtain ⟨h2, h3⟩ := hS.out (i := 0) rfl
               rw [u8_of (by omega) (by omega), u8_of (by omega) (by omega), u8_of (by omega) (by omega)] at h2
               exact ⟨_, _, rfl, h2, h3⟩)
            | (rw [pointB_4 (by omega) (by omega)]
               obtain ⟨h2, h3⟩ := hS.out (i := 0) rfl
               rw [u8_of (by omega) (by omega), u8_of (by omega) (by omega), u8_of (by omega) (by omega), u8_of (by omega) (by omega)] at h2
               exact ⟨_, _, rfl, h2, h3⟩)
        · try simp only [decide_eq_true_eq, decide_eq_false_iff_not, Bool.not_eq_true', Bool.not_eq_false', Int.not_lt, Int.not_le, Nat.not_lt, Nat.not_le, Bool.true_eq, Bool.false_eq, reduceCtorEq] at c3
          refine gc_seq fun K7 hK7 => ?_
          refine gc_region ?_
          refine gl_op rfl rfl rfl (op_pure hT rfl) ?_
          refine gl_op rfl rfl rfl (op_pure hT rfl) ?_
          refine gl_op rfl rfl rfl (op_pure hT rfl) ?_
          refine gl_nil ?_
          refine hK7 _ _ ?_
          clear hK7; try clear K7
          refine gc_cond rfl rfl (fun c18 => ?_) (fun c18 => ?_)
          · try simp only [decide_eq_true_eq, decide_eq_false_iff_not, Bool.not_eq_true', Bool.not_eq_false', Int.not_lt, Int.not_le, Nat.not_lt, Nat.not_le, Bool.true_eq, Bool.false_eq, reduceCtorEq] at c18
            refine gc_seq fun K8 hK8 => ?_
            refine gc_region ?_
            refine gl_op rfl rfl rfl (op_pure hT rfl) ?_
            refine gl_op rfl rfl rfl (op_pure hT rfl) ?_
            refine gl_lit hT hS el5 rfl rfl rfl rfl rfl rfl rfl rfl rfl fun g23 w23 hS => ?_
            refine gl_op rfl rfl rfl (op_pure hT rfl) ?_
            refine gl_nil ?_
            refine hK8 _ _ ?_
            clear hK8; try clear K8
            refine gc_ret ?_
            try simp only [x_then_ret, x_block_ret]
            refine gk_ret1 rfl rfl ?_
            first
              | (rw [pointB_none (by omega)]; exact ⟨none, 0, rfl, owns_nil, hS.below⟩)
              | (rw [pointB_1 (by omega) (by omega)]
                 obtain ⟨h2, h3⟩ := hS.out (i := 0) rfl
                 rw [u8_of (by omega) (by omega)] at h2
                 exact ⟨_, _, rfl, h2, h3⟩)
              | (rw [pointB_2 (by omega) (by omega)]
                 obtain ⟨h2, h3⟩ := hS.out (i := 0) rfl
                 rw [u8_of (by omega) (by omega), u8_of (by omega) (by omega)] at h2
                 exact ⟨_, _, rfl, h2, h3⟩)
              | (rw [pointB_3 (by omega) (by omega) (by omega)]
                 obtain ⟨h2, h3⟩ := hS.out (i := 0) rfl
                 rw [u8_of (by omega) (by omega), u8_of (by omega) (by omega), u8_of (by omega) (by omega)] at h2
                 exact ⟨_, _, rfl, h2, h3⟩)
              | (rw [pointB_4 (by omega) (by omega)]
                 obtain ⟨h2, h3⟩ := hS.out (i := 0) rfl
                 rw [u8_of (by omega) (by omega), u8_of (by omega) (by omega), u8_of (by omega) (by omega), u8_of (by omega) (by omega)] at h2
                 exact ⟨_, _, rfl, h2, h3⟩)
          · try simp only [decide_eq_true_eq, decide_eq_false_iff_not, Bool.not_eq_true', Bool.not_eq_false', Int.not_lt, Int.not_le, Nat.not_lt, Nat.not_le, Bool.true_eq, Bool.false_eq, reduceCtorEq] at c18
            refine gc_seq fun K9 hK9 => ?_
            refine gc_region ?_
            refine gl_op rfl rfl rfl (op_pure hT rfl) ?_
            refine gl_op rfl rfl rfl (op_pure hT rfl) ?_
            refine gl_op rfl rfl rfl (op_pure hT rfl) ?_
            refine gl_nil ?_
            refine hK9 _ _ ?_
            clear hK9; try clear K9
            refine gc_cond rfl rfl (fun c24 => ?_) (fun c24 => ?_)
            · try simp only [decide_eq_true_eq, decide_eq_false_iff_not, Bool.not_eq_true', Bool.not_eq_false', Int.not_lt, Int.not_le, Nat.not_lt, Nat.not_le, Bool.true_eq, Bool.false_eq, reduceCtorEq] at c24
              refine gc_seq fun K10 hK10 => ?_
              refine gc_region ?_
              refine gl_op rfl rfl rfl (op_pure hT rfl) ?_
              first | refine gl_op rfl rfl rfl (op_quo hT rfl (by omega) (by omega)) ?_ | refine gl_op rfl rfl rfl (op_pure hT rfl) ?_
              first | refine gl_fit hT rfl rfl rfl rfl (by omega) ?_ | refine gl_op rfl rfl rfl (op_pure hT rfl) ?_
              refine gl_op rfl rfl rfl (op_pure hT rfl) ?_
              refine gl_op rfl rfl rfl (op_pure hT rfl) ?_
              first | refine gl_op rfl rfl rfl (op_rem hT rfl (by omega)) ?_ | refine gl_op rfl rfl rfl (op_pure hT rfl) ?_
              first | refine gl_fit hT rfl rfl rfl rfl (by omega) ?_ | refine gl_op rfl rfl rfl (op_pure hT rfl) ?_
              refine gl_op rfl rfl rfl (op_pure hT rfl) ?_
              refine gl_lit hT hS el5 rfl rfl rfl rfl rfl rfl rfl rfl rfl fun g35 w35 hS => ?_
              refine gl_op rfl rfl rfl (op_pure hT rfl) ?_
              refine gl_nil ?_
              refine hK10 _ _ ?_
              clear hK10; try clear K10
              refine gc_ret ?_
              try simp only [x_then_ret, x_block_ret]
              refine gk_ret1 rfl rfl ?_
              first
                | (rw [pointB_none (by omega)]; exact ⟨none, 0, rfl, owns_nil, hS.below⟩)
                | (rw [pointB_1 (by omega) (by omega)]
                   obtain ⟨h2, h3⟩ := hS.out (i := 0) rfl
                   rw [u8_of (by omega) (by omega)] at h2
                   exact ⟨_, _, rfl, h2, h3⟩)
                | (rw [pointB_2 (by omega) (by omega)]
                   obtain ⟨h2, h3⟩ := hS.out (i := 0) rfl
                   rw [u8_of (by omega) (by omega), u8_of (by omega) (by omega)] at h2
                   exact ⟨_, _, rfl, h2, h3⟩)
                | (rw [pointB_3 (by omega) (by omega) (by omega)]
                   obtain ⟨h2, h3⟩ := hS.out (i := 0) rfl
                   rw [u8_of (by omega) (by omega), u8_of (by omega) (by omega), u8_of (by omega) (by omega)] at h2
                   exact ⟨_, _, rfl, h2, h3⟩)
                | (rw [pointB_4 (by omega) (by omega)]
                   obtain ⟨h2, h3⟩ := hS.out (i := 0) rfl
                   rw [u8_of (by omega) (by omega), u8_of (by omega) (by omega), u8_of (by omega) (by omega), u8_of (by omega) (by omega)] at h2
                   exact ⟨_, _, rfl, h2, h3⟩)
            · try simp only [decide_eq_true_eq, decide_eq_false_iff_not, Bool.not_eq_true', Bool.not_eq_false', Int.not_lt, Int.not_le, Nat.not_lt, Nat.not_le, Bool.true_eq, Bool.false_eq, reduceCtorEq] at c24
              refine gc_seq fun K11 hK11 => ?_
              refine gc_region ?_
              refine gl_op rfl rfl rfl (op_pure hT rfl) ?_
              refine gl_op rfl rfl rfl (op_pure hT rfl) ?_
              refine gl_op rfl rfl rfl (op_pure hT rfl) ?_
              refine gl_nil ?_
              refine hK11 _ _ ?_
              clear hK11; try clear K11
              refine gc_cond rfl rfl (fun c36 => ?_) (fun c36 => ?_)
              · try simp only [decide_eq_true_eq, decide_eq_false_iff_not, Bool.not_eq_true', Bool.not_eq_false', Int.not_lt, Int.not_le, Nat.not_lt, Nat.not_le, Bool.true_eq, Bool.false_eq, reduceCtorEq] at c36
                refine gc_seq fun K12 hK12 => ?_
                refine gc_region ?_
                refine gl_op rfl rfl rfl (op_pure hT rfl) ?_
                first | refine gl_op rfl rfl rfl (op_quo hT rfl (by omega) (by omega)) ?_ | refine gl_op rfl rfl rfl (op_pure hT rfl) ?_
                first | refine gl_fit hT rfl rfl rfl rfl (by omega) ?_ | refine gl_op rfl rfl rfl (op_pure hT rfl) ?_
                refine gl_op rfl rfl rfl (op_pure hT rfl) ?_
                refine gl_op rfl rfl rfl (op_pure hT rfl) ?_
                first | refine gl_op rfl rfl rfl (op_quo hT rfl (by omega) (by omega)) ?_ | refine gl_op rfl rfl rfl (op_pure hT rfl) ?_
                first | refine gl_op rfl rfl rfl (op_rem hT rfl (by omega)) ?_ | refine gl_op rfl rfl rfl (op_pure hT rfl) ?_
                first | refine gl_fit hT rfl rfl rfl rfl (by omega) ?_ | refine gl_op rfl rfl rfl (op_pure hT rfl) ?_
                refine gl_op rfl rfl rfl (op_pure hT rfl) ?_
                refine gl_op rfl rfl rfl (op_pure hT rfl) ?_
                first | refine gl_op rfl rfl rfl (op_rem hT rfl (by omega)) ?_ | refine gl_op rfl rfl rfl (op_pure hT rfl) ?_
                first | refine gl_fit hT rfl rfl rfl rfl (by omega) ?_ | refine gl_op rfl rfl rfl (op_pure hT rfl) ?_
                refine gl_op rfl rfl rfl (op_pure hT rfl) ?_
                refine gl_lit hT hS el5 rfl rfl rfl rfl rfl rfl rfl rfl rfl fun g52 w52 hS => ?_
                refine gl_op rfl rfl rfl (op_pure hT rfl) ?_
                refine gl_nil ?_
                refine hK12 _ _ ?_
                clear hK12; try clear K12
                refine gc_ret ?_
                try simp only [x_then_ret, x_block_ret]
                refine gk_ret1 rfl rfl ?_
                first
                  | (rw [pointB_none (by omega)]; exact ⟨none, 0, rfl, owns_nil, hS.below⟩)
                  | (rw [pointB_1 (by omega) (by omega)]
                     obtain ⟨h2, h3⟩ := hS.out (i := 0) rfl
                     rw [u8_of (by omega) (by omega)] at h2
                     exact ⟨_, _, rfl, h2, h3⟩)
                  | (rw [pointB_2 (by omega) (by omega)]
                     obtain ⟨h2, h3⟩ := hS.out (i := 0) rfl
                     rw [u8_of (by omega) (by omega), u8_of (by omega) (by omega)] at h2
                     exact ⟨_, _, rfl, h2, h3⟩)
                  | (rw [pointB_3 (by omega) (by omega) (by omega)]
                     obtain ⟨h2, h3⟩ := hS.out (i := 0) rfl
                     rw [u8_of (by omega) (by omega), u8_of (by omega) (by omega), u8_of (by omega) (by omega)] at h2
                     exact ⟨_, _, rfl, h2, h3⟩)
                  | (rw [pointB_4 (by omega) (by omega)]
                     obtain ⟨h2, h3⟩ := hS.out (i := 0) rfl
                     rw [u8_of (by omega) (by omega), u8_of (by omega) (by omega), u8_of (by omega) (by omega), u8_of (by omega) (by omega)] at h2
                     exact ⟨_, _, rfl, h2, h3⟩)
              · try simp only [decide_eq_true_eq, decide_eq_false_iff_not, Bool.not_eq_true', Bool.not_eq_false', Int.not_lt, Int.not_le, Nat.not_lt, Nat.not_le, Bool.true_eq, Bool.false_eq, reduceCtorEq] at c36
                refine gc_skip ?_
                refine hK2 _ _ ?_
                clear hK2; try clear K2
                refine gc_seq fun K13 hK13 => ?_
                refine gc_region ?_
                refine gl_op rfl rfl rfl (op_pure hT rfl) ?_
                first | refine gl_op rfl rfl rfl (op_quo hT rfl (by omega) (by omega)) ?_ | refine gl_op rfl rfl rfl (op_pure hT rfl) ?_
                first | refine gl_fit hT rfl rfl rfl rfl (by omega) ?_ | refine gl_op rfl rfl rfl (op_pure hT rfl) ?_
                refine gl_op rfl rfl rfl (op_pure hT rfl) ?_
                refine gl_op rfl rfl rfl (op_pure hT rfl) ?_
                first | refine gl_op rfl rfl rfl (op_quo hT rfl (by omega) (by omega)) ?_ | refine gl_op rfl rfl rfl (op_pure hT rfl) ?_
                first | refine gl_op rfl rfl rfl (op_rem hT rfl (by omega)) ?_ | refine gl_op rfl rfl rfl (op_pure hT rfl) ?_
                first | refine gl_fit hT rfl rfl rfl rfl (by omega) ?_ | refine gl_op rfl rfl rfl (op_pure hT rfl) ?_
                refine gl_op rfl rfl rfl (op_pure hT rfl) ?_
                refine gl_op rfl rfl rfl (op_pure hT rfl) ?_
                first | refine gl_op rfl rfl rfl (op_quo hT rfl (by omega) (by omega)) ?_ | refine gl_op rfl rfl rfl (op_pure hT rfl) ?_
                first | refine gl_op rfl rfl rfl (op_rem hT rfl (by omega)) ?_ | refine gl_op rfl rfl rfl (op_pure hT rfl) ?_
                first | refine gl_fit hT rfl rfl rfl rfl (by omega) ?_ | refine gl_op rfl rfl rfl (op_pure hT rfl) ?_
                refine gl_op rfl rfl rfl (op_pure hT rfl) ?_
                refine gl_op rfl rfl rfl (op_pure hT rfl) ?_
                first | refine gl_op rfl rfl rfl (op_rem hT rfl (by omega)) ?_ | refine gl_op rfl rfl rfl (op_pure hT rfl) ?_
                first | refine gl_fit hT rfl rfl rfl rfl (by omega) ?_ | refine gl_op rfl rfl rfl (op_pure hT rfl) ?_
                refine gl_op rfl rfl rfl (op_pure hT rfl) ?_
                refine gl_lit hT hS el5 rfl rfl rfl rfl rfl rfl rfl rfl rfl fun g71 w71 hS => ?_
                refine gl_op rfl rfl rfl (op_pure hT rfl) ?_
                refine gl_nil ?_
                refine hK13 _ _ ?_
                clear hK13; try clear K13
                refine gc_ret ?_
                try simp only [x_then_ret, x_block_ret]
                refine gk_ret1 rfl rfl ?_
                first
                  | (rw [pointB_none (by omega)]; exact ⟨none, 0, rfl, owns_nil, hS.below⟩)
                  | (rw [pointB_1 (by omega) (by omega)]
                     obtain ⟨h2, h3⟩ := hS.out (i := 0) rfl
                     rw [u8_of (by omega) (by omega)] at h2
                     exact ⟨_, _, rfl, h2, h3⟩)
                  | (rw [pointB_2 (by omega) (by omega)]
                     obtain ⟨h2, h3⟩ := hS.out (i := 0) rfl
                     rw [u8_of (by omega) (by omega), u8_of (by omega) (by omega)] at h2
                     exact ⟨_, _, rfl, h2, h3⟩)
                  | (rw [pointB_3 (by omega) (by omega) (by omega)]
                     obtain ⟨h2, h3⟩ := hS.out (i := 0) rfl
                     rw [u8_of (by omega) (by omega), u8_of (by omega) (by omega), u8_of (by omega) (by omega)] at h2
                     exact ⟨_, _, rfl, h2, h3⟩)
                  | (rw [pointB_4 (by omega) (by omega)]
                     obtain ⟨h2, h3⟩ := hS.out (i := 0) rfl
                     rw [u8_of (by omega) (by omega), u8_of (by omega) (by omega), u8_of (by omega) (by omega), u8_of (by omega) (by omega)] at h2
                     exact ⟨_, _, rfl, h2, h3⟩)
      · try simp only [decide_eq_true_eq, decide_eq_false_iff_not, Bool.not_eq_true', Bool.not_eq_false', Int.not_lt, Int.not_le, Nat.not_lt, Nat.not_le, Bool.true_eq, Bool.false_eq, reduceCtorEq] at c13
        refine gl_pass rfl rfl rfl rfl rfl rfl ?_
        refine gl_pass rfl rfl rfl rfl rfl rfl ?_
        refine gl_un rfl rfl rfl rfl ?_
        refine gl_op rfl rfl rfl (op_pure hT rfl) ?_
        refine gl_op rfl rfl rfl (op_pure hT rfl) ?_
        refine gl_op rfl rfl rfl (op_pure hT rfl) ?_
        refine gl_nil ?_
        refine hK3 _ _ ?_
        clear hK3; try clear K3
        refine gc_cond_f rfl ?_
        refine gc_seq fun K14 hK14 => ?_
        refine gc_region ?_
        refine gl_op rfl rfl rfl (op_pure hT rfl) ?_
        refine gl_op rfl rfl rfl (op_pure hT rfl) ?_
        refine gl_op rfl rfl rfl (op_pure hT rfl) ?_
        refine gl_nil ?_
        refine hK14 _ _ ?_
        clear hK14; try clear K14
        refine gc_cond rfl rfl (fun c18 => ?_) (fun c18 => ?_)
        · try simp only [decide_eq_true_eq, decide_eq_false_iff_not, Bool.not_eq_true', Bool.not_eq_false', Int.not_lt, Int.not_le, Nat.not_lt, Nat.not_le, Bool.true_eq, Bool.false_eq, reduceCtorEq] at c18
          refine gc_seq fun K15 hK15 => ?_
          refine gc_region ?_
          refine gl_op rfl rfl rfl (op_pure hT rfl) ?_
          refine gl_op rfl rfl rfl (op_pure hT rfl) ?_
          refine gl_lit hT hS el5 rfl rfl rfl rfl rfl rfl rfl rfl rfl fun g23 w23 hS => ?_
          refine gl_op rfl rfl rfl (op_pure hT rfl) ?_
          refine gl_nil ?_
          refine hK15 _ _ ?_
          clear hK15; try clear K15
          refine gc_ret ?_
          try simp only [x_then_ret, x_block_ret]
          refine gk_ret1 rfl rfl ?_
          first
            | (rw [pointB_none (by omega)]; exact ⟨none, 0, rfl, owns_nil, hS.below⟩)
            | (rw [pointB_1 (by omega) (by omega)]
               obtain ⟨h2, h3⟩ := hS.out (i := 0) rfl
               rw [u8_of (by omega) (by omega)] at h2
               exact ⟨_, _, rfl, h2, h3⟩)
            | (rw [pointB_2 (by omega) (by omega)]
               obtain ⟨h2, h3⟩ := hS.out (i := 0) rfl
               rw [u8_of (by omega) (by omega), u8_of (by omega) (by omega)] at h2
               exact ⟨_, _, rfl, h2, h3⟩)
            | (rw [pointB_3 (by omega) (by omega) (by omega)]
               obtain ⟨h2, h3⟩ := hS.out (i := 0) rfl
               rw [u8_of (by omega) (by omega), u8_of (by omega) (by omega), u8_of (by omega) (by omega)] at h2
               exact ⟨_, _, rfl, h2, h3⟩)
            | (rw [pointB_4 (by omega) (by omega)]
               obtain ⟨h2, h3⟩ := hS.out (i := 0) rfl
               rw [u8_of (by omega) (by omega), u8_of (by omega) (by omega), u8_of (by omega) (by omega), u8_of (by omega) (by omega)] at h2
               exact ⟨_, _, rfl, h2, h3⟩)
        · try simp only [decide_eq_true_eq, decide_eq_false_iff_not, Bool.not_eq_true', Bool.not_eq_false', Int.not_lt, Int.not_le, Nat.not_lt, Nat.not_le, Bool.true_eq, Bool.false_eq, reduceCtorEq] at c18
          refine gc_seq fun K16 hK16 => ?_
          refine gc_region ?_
          refine gl_op rfl rfl rfl (op_pure hT rfl) ?_
          refine gl_op rfl rfl rfl (op_pure hT rfl) ?_
          refine gl_op rfl rfl rfl (op_pure hT rfl) ?_
          refine gl_nil ?_
          refine hK16 _ _ ?_
          clear hK16; try clear K16
          refine gc_cond rfl rfl (fun c24 => ?_) (fun c24 => ?_)
          · try simp only [decide_eq_true_eq, decide_eq_false_iff_not, Bool.not_eq_true', Bool.not_eq_false', Int.not_lt, Int.not_le, Nat.not_lt, Nat.not_le, Bool.true_eq, Bool.false_eq, reduceCtorEq] at c24
            refine gc_seq fun K17 hK17 => ?_
            refine gc_region ?_
            refine gl_op rfl rfl rfl (op_pure hT rfl) ?_
            first | refine gl_op rfl rfl rfl (op_quo hT rfl (by omega) (by omega)) ?_ | refine gl_op rfl rfl rfl (op_pure hT rfl) ?_
            first | refine gl_fit hT rfl rfl rfl rfl (by omega) ?_ | refine gl_op rfl rfl rfl (op_pure hT rfl) ?_
            refine gl_op rfl rfl rfl (op_pure hT rfl) ?_
            refine gl_op rfl rfl rfl (op_pure hT rfl) ?_
            first | refine gl_op rfl rfl rfl (op_rem hT rfl (by omega)) ?_ | refine gl_op rfl rfl rfl (op_pure hT rfl) ?_
            first | refine gl_fit hT rfl rfl rfl rfl (by omega) ?_ | refine gl_op rfl rfl rfl (op_pure hT rfl) ?_
            refine gl_op rfl rfl rfl (op_pure hT rfl) ?_
            refine gl_lit hT hS el5 rfl rfl rfl rfl rfl rfl rfl rfl rfl fun g35 w35 hS => ?_
            refine gl_op rfl rfl rfl (op_pure hT rfl) ?_
            refine gl_nil ?_
            refine hK17 _ _ ?_
            clear hK17; try clear K17
            refine gc_ret ?_
            try simp only [x_then_ret, x_block_ret]
            refine gk_ret1 rfl rfl ?_
            first
              | (rw [pointB_none (by omega)]; exact ⟨none, 0, rfl, owns_nil, hS.below⟩)
              | (rw [pointB_1 (by omega) (by omega)]
                 obtain ⟨h2, h3⟩ := hS.out (i := 0) rfl
                 rw [u8_of (by omega) (by omega)] at h2
                 exact ⟨_, _, rfl, h2, h3⟩)
              | (rw [pointB_2 (by omega) (by omega)]
                 obtain ⟨h2, h3⟩ := hS.out (i := 0) rfl
                 rw [u8_of (by omega) (by omega), u8_of (by omega) (by omega)] at h2
                 exact ⟨_, _, rfl, h2, h3⟩)
              | (rw [pointB_3 (by omega) (by omega) (by omega)]
                 obtain ⟨h2, h3⟩ := hS.out (i := 0) rfl
                 rw [u8_of (by omega) (by omega), u8_of (by omega) (by omega), u8_of (by omega) (by omega)] at h2
                 exact ⟨_, _, rfl, h2, h3⟩)
              | (rw [pointB_4 (by omega) (by omega)]
                 obtain ⟨h2, h3⟩ := hS.out (i := 0) rfl
                 rw [u8_of (by omega) (by omega), u8_of (by omega) (by omega), u8_of (by omega) (by omega), u8_of (by omega) (by omega)] at h2
                 exact ⟨_, _, rfl, h2, h3⟩)
          · try simp only [decide_eq_true_eq, decide_eq_false_iff_not, Bool.not_eq_true', Bool.not_eq_false', Int.not_lt, Int.not_le, Nat.not_lt, Nat.not_le, Bool.true_eq, Bool.false_eq, reduceCtorEq] at c24
            refine gc_seq fun K18 hK18 => ?_
            refine gc_region ?_
            refine gl_op rfl rfl rfl (op_pure hT rfl) ?_
            refine gl_op rfl rfl rfl (op_pure hT rfl) ?_
            refine gl_op rfl rfl rfl (op_pure hT rfl) ?_
            refine gl_nil ?_
            refine hK18 _ _ ?_
            clear hK18; try clear K18
            refine gc_cond rfl rfl (fun c36 => ?_) (fun c36 => ?_)
            · try simp only [decide_eq_true_eq, decide_eq_false_iff_not, Bool.not_eq_true', Bool.not_eq_false', Int.not_lt, Int.not_le, Nat.not_lt, Nat.not_le, Bool.true_eq, Bool.false_eq, reduceCtorEq] at c36
              refine gc_seq fun K19 hK19 => ?_
              refine gc_region ?_
              refine gl_op rfl rfl rfl (op_pure hT rfl) ?_
              first | refine gl_op rfl rfl rfl (op_quo hT rfl (by omega) (by omega)) ?_ | refine gl_op rfl rfl rfl (op_pure hT rfl) ?_
              first | refine gl_fit hT rfl rfl rfl rfl (by omega) ?_ | refine gl_op rfl rfl rfl (op_pure hT rfl) ?_
              refine gl_op rfl rfl rfl (op_pure hT rfl) ?_
              refine gl_op rfl rfl rfl (op_pure hT rfl) ?_
              first | refine gl_op rfl rfl rfl (op_quo hT rfl (by omega) (by omega)) ?_ | refine gl_op rfl rfl rfl (op_pure hT rfl) ?_
              first | refine gl_op rfl rfl rfl (op_rem hT rfl (by omega)) ?_ | refine gl_op rfl rfl rfl (op_pure hT rfl) ?_
              first | refine gl_fit hT rfl rfl rfl rfl (by omega) ?_ | refine gl_op rfl rfl rfl (op_pure hT rfl) ?_
              refine gl_op rfl rfl rfl (op_pure hT rfl) ?_
              refine gl_op rfl rfl rfl (op_pure hT rfl) ?_
              first | refine gl_op rfl rfl rfl (op_rem hT rfl (by omega)) ?_ | refine gl_op rfl rfl rfl (op_pure hT rfl) ?_
              first | refine gl_fit hT rfl rfl rfl rfl (by omega) ?_ | refine gl_op rfl rfl rfl (op_pure hT rfl) ?_
              refine gl_op rfl rfl rfl (op_pure hT rfl) ?_
              refine gl_lit hT hS el5 rfl rfl rfl rfl rfl rfl rfl rfl rfl fun g52 w52 hS => ?_
              refine gl_op rfl rfl rfl (op_pure hT rfl) ?_
              refine gl_nil ?_
              refine hK19 _ _ ?_
              clear hK19; try clear K19
              refine gc_ret ?_
              try simp only [x_then_ret, x_block_ret]
              refine gk_ret1 rfl rfl ?_
              first
                | (rw [pointB_none (by omega)]; exact ⟨none, 0, rfl, owns_nil, hS.below⟩)
                | (rw [pointB_1 (by omega) (by omega)]
                   obtain ⟨h2, h3⟩ := hS.out (i := 0) rfl
                   rw [u8_of (by omega) (by omega)] at h2
                   exact ⟨_, _, rfl, h2, h3⟩)
                | (rw [pointB_2 (by omega) (by omega)]
                   obtain ⟨h2, h3⟩ := hS.out (i := 0) rfl
                   rw [u8_of (by omega) (by omega), u8_of (by omega) (by omega)] at h2
                   exact ⟨_, _, rfl, h2, h3⟩)
                | (rw [pointB_3 (by omega) (by omega) (by omega)]
                   obtain ⟨h2, h3⟩ := hS.out (i := 0) rfl
                   rw [u8_of (by omega) (by omega), u8_of (by omega) (by omega), u8_of (by omega) (by omega)] at h2
                   exact ⟨_, _, rfl, h2, h3⟩)
                | (rw [pointB_4 (by omega) (by omega)]
                   obtain ⟨h2, h3⟩ := hS.out (i := 0) rfl
                   rw [u8_of (by omega) (by omega), u8_of (by omega) (by omega), u8_of (by omega) (by omega), u8_of (by omega) (by omega)] at h2
                   exact ⟨_, _, rfl, h2, h3⟩)
            · try simp only [decide_eq_true_eq, decide_eq_false_iff_not, Bool.not_eq_true', Bool.not_eq_false', Int.not_lt, Int.not_le, Nat.not_lt, Nat.not_le, Bool.true_eq, Bool.false_eq, reduceCtorEq] at c36
              refine gc_skip ?_
              refine hK2 _ _ ?_
              clear hK2; try clear K2
              refine gc_seq fun K20 hK20 => ?_
              refine gc_region ?_
              refine gl_op rfl rfl rfl (op_pure hT rfl) ?_
              first | refine gl_op rfl rfl rfl (op_quo hT rfl (by omega) (by omega)) ?_ | refine gl_op rfl rfl rfl (op_pure hT rfl) ?_
              first | refine gl_fit hT rfl rfl rfl rfl (by omega) ?_ | refine gl_op rfl rfl rfl (op_pure hT rfl) ?_
              refine gl_op rfl rfl rfl (op_pure hT rfl) ?_
              refine gl_op rfl rfl rfl (op_pure hT rfl) ?_
              first | refine gl_op rfl rfl rfl (op_quo hT rfl (by omega) (by omega)) ?_ | refine gl_op rfl rfl rfl (op_pure hT rfl) ?_
              first | refine gl_op rfl rfl rfl (op_rem hT rfl (by omega)) ?_ | refine gl_op rfl rfl rfl (op_pure hT rfl) ?_
              first | refine gl_fit hT rfl rfl rfl rfl (by omega) ?_ | refine gl_op rfl rfl rfl (op_pure hT rfl) ?_
              refine gl_op rfl rfl rfl (op_pure hT rfl) ?_
              refine gl_op rfl rfl rfl (op_pure hT rfl) ?_
              first | refine gl_op rfl rfl rfl (op_quo hT rfl (by omega) (by omega)) ?_ | refine gl_op rfl rfl rfl (op_pure hT rfl) ?_
              first | refine gl_op rfl rfl rfl (op_rem hT rfl (by omega)) ?_ | refine gl_op rfl rfl rfl (op_pure hT rfl) ?_
              first | refine gl_fit hT rfl rfl rfl rfl (by omega) ?_ | refine gl_op rfl rfl rfl (op_pure hT rfl) ?_
              refine gl_op rfl rfl rfl (op_pure hT rfl) ?_
              refine gl_op rfl rfl rfl (op_pure hT rfl) ?_
              first | refine gl_op rfl rfl rfl (op_rem hT rfl (by omega)) ?_ | refine gl_op rfl rfl rfl (op_pure hT rfl) ?_
              first | refine gl_fit hT rfl rfl rfl rfl (by omega) ?_ | refine gl_op rfl rfl rfl (op_pure hT rfl) ?_
              refine gl_op rfl rfl rfl (op_pure hT rfl) ?_
              refine gl_lit hT hS el5 rfl rfl rfl rfl rfl rfl rfl rfl rfl fun g71 w71 hS => ?_
              refine gl_op rfl rfl rfl (op_pure hT rfl) ?_
              refine gl_nil ?_
              refine hK20 _ _ ?_
              clear hK20; try clear K20
              refine gc_ret ?_
              try simp only [x_then_ret, x_block_ret]
              refine gk_ret1 rfl rfl ?_
              first
                | (rw [pointB_none (by omega)]; exact ⟨none, 0, rfl, owns_nil, hS.below⟩)
                | (rw [pointB_1 (by omega) (by omega)]
                   obtain ⟨h2, h3⟩ := hS.out (i := 0) rfl
                   rw [u8_of (by omega) (by omega)] at h2
                   exact ⟨_, _, rfl, h2, h3⟩)
                | (rw [pointB_2 (by omega) (by omega)]
                   obtain ⟨h2, h3⟩ := hS.out (i := 0) rfl
                   rw [u8_of (by omega) (by omega), u8_of (by omega) (by omega)] at h2
                   exact ⟨_, _, rfl, h2, h3⟩)
                | (rw [pointB_3 (by omega) (by omega) (by omega)]
                   obtain ⟨h2, h3⟩ := hS.out (i := 0) rfl
                   rw [u8_of (by omega) (by omega), u8_of (by omega) (by omega), u8_of (by omega) (by omega)] at h2
                   exact ⟨_, _, rfl, h2, h3⟩)
                | (rw [pointB_4 (by omega) (by omega)]
                   obtain ⟨h2, h3⟩ := hS.out (i := 0) rfl
                   rw [u8_of (by omega) (by omega), u8_of (by omega) (by omega), u8_of (by omega) (by omega), u8_of (by omega) (by omega)] at h2
                   exact ⟨_, _, rfl, h2, h3⟩)
theorem spot_mod (i n : Int) (hn : 0 < n) : (i.tmod n < 0 ∧ i.tmod n + n = i % n) ∨ (0 ≤ i.tmod n ∧ i.tmod n = i % n) := by
  have hem := Int.tmod_eq_emod (a := i) (b := n)
  have hr0 := Int.emod_nonneg i (show n ≠ 0 by omega)
  have hr1 := Int.emod_lt_of_pos i hn
  split at hem
  · exact .inr (by omega)
  · exact .inl (by omega)
theorem Spot_calls (i n : Int) (hi : -9223372036854775808 ≤ i ∧ i ≤ 9223372036854775807) (hn : 0 ≤ n ∧ n ≤ 4611686018427387904) (w : World) :
    Calls Tryd.prog 26 ⟨[.int .i64 i, .int .i64 n]⟩ w fun e w' => e = .returned (.int .i64 (if n = 0 then 0 else i % n)) ∧ w = w' := by
  refine gc_enter (N := 17) Tryd.func26 rfl rfl rfl [(0, _), (1, _)] rfl ?_
  refine gc_seq fun K1 hK1 => ?_
  refine gc_region ?_
  refine gl_op rfl rfl rfl (op_pure hT rfl) ?_
  refine gl_nil ?_
  refine hK1 _ _ ?_
  clear hK1; try clear K1
  refine gc_seq fun K2 hK2 => ?_
  refine gc_seq fun K3 hK3 => ?_
  refine gc_region ?_
  refine gl_op rfl rfl rfl (op_pure hT rfl) ?_
  refine gl_op rfl rfl rfl (op_pure hT rfl) ?_
  refine gl_nil ?_
  refine hK3 _ _ ?_
  clear hK3; try clear K3
  refine gc_cond rfl rfl (fun c7 => ?_) (fun c7 => ?_)
  · try simp only [decide_eq_true_eq, decide_eq_false_iff_not, Bool.not_eq_true', Bool.not_eq_false', Int.not_lt, Int.not_le, Nat.not_lt, Nat.not_le, Bool.true_eq, Bool.false_eq, reduceCtorEq] at c7
    refine gc_seq fun K4 hK4 => ?_
    refine gc_region ?_
    refine gl_op rfl rfl rfl (op_pure hT rfl) ?_
    refine gl_nil ?_
    refine hK4 _ _ ?_
    clear hK4; try clear K4
    refine gc_ret ?_
    try simp only [x_then_ret, x_block_ret]
    refine gk_ret1 rfl rfl ?_
    exact ⟨by rw [if_pos c7], rfl⟩
  · try simp only [decide_eq_true_eq, decide_eq_false_iff_not, Bool.not_eq_true', Bool.not_eq_false', Int.not_lt, Int.not_le, Nat.not_lt, Nat.not_le, Bool.true_eq, Bool.false_eq, reduceCtorEq] at c7
    refine gc_skip ?_
    refine hK2 _ _ ?_
    clear hK2; try clear K2
    refine gc_seq fun K5 hK5 => ?_
    refine gc_region ?_
    refine gl_op rfl rfl rfl (op_pure hT rfl) ?_
    refine gl_op rfl rfl rfl (op_pure hT rfl) ?_
    refine gl_op rfl rfl rfl (op_remv rfl rfl rfl c7) ?_
    have hr0 := Int.emod_nonneg i c7
    have hr1 := Int.emod_lt_of_pos i (show 0 < n by omega)
    have hsm := spot_mod i n (by omega)
    refine gl_op rfl rfl rfl (op_pure hT rfl) ?_
    refine gl_nil ?_
    refine hK5 _ _ ?_
    clear hK5; try clear K5
    refine gc_seq fun K6 hK6 => ?_
    refine gc_seq fun K7 hK7 => ?_
    refine gc_region ?_
    refine gl_op rfl rfl rfl (op_pure hT rfl) ?_
    refine gl_op rfl rfl rfl (op_pure hT rfl) ?_
    refine gl_nil ?_
    refine hK7 _ _ ?_
    clear hK7; try clear K7
    refine gc_cond rfl rfl (fun c12 => ?_) (fun c12 => ?_)
    · try simp only [decide_eq_true_eq, decide_eq_false_iff_not, Bool.not_eq_true', Bool.not_eq_false', Int.not_lt, Int.not_le, Nat.not_lt, Nat.not_le, Bool.true_eq, Bool.false_eq, reduceCtorEq] at c12
      refine gc_region ?_
      refine gl_op rfl rfl rfl (op_pure hT rfl) ?_
      refine gl_op rfl rfl rfl (op_pure hT rfl) ?_
      first | refine gl_fit hT rfl rfl rfl rfl (by omega) ?_ | refine gl_op rfl rfl rfl (op_pure hT rfl) ?_
      refine gl_op rfl rfl rfl (op_pure hT rfl) ?_
      refine gl_nil ?_
      refine hK6 _ _ ?_
      clear hK6; try clear K6
      refine gc_seq fun K8 hK8 => ?_
      refine gc_region ?_
      refine gl_op rfl rfl rfl (op_pure hT rfl) ?_
      refine gl_op rfl rfl rfl (op_pure hT rfl) ?_
      refine gl_nil ?_
      refine hK8 _ _ ?_
      clear hK8; try clear K8
      refine gc_ret ?_
      try simp only [x_then_ret, x_block_ret]
      refine gk_ret1 rfl rfl ?_
      exact ⟨by rw [if_neg c7]; congr 2; omega, rfl⟩
    · try simp only [decide_eq_true_eq, decide_eq_false_iff_not, Bool.not_eq_true', Bool.not_eq_false', Int.not_lt, Int.not_le, Nat.not_lt, Nat.not_le, Bool.true_eq, Bool.false_eq, reduceCtorEq] at c12
      refine gc_skip ?_
      refine hK6 _ _ ?_
      clear hK6; try clear K6
      refine gc_seq fun K9 hK9 => ?_
      refine gc_region ?_
      refine gl_op rfl rfl rfl (op_pure hT rfl) ?_
      refine gl_op rfl rfl rfl (op_pure hT rfl) ?_
      refine gl_nil ?_
      refine hK9 _ _ ?_
      clear hK9; try clear K9
      refine gc_ret ?_
      try simp only [x_then_ret, x_block_ret]
      refine gk_ret1 rfl rfl ?_
      exact ⟨by rw [if_neg c7]; congr 2; omega, rfl⟩
theorem atP_bounds (s : ByteArray) (i : Nat) : (-9223372036854775808 ≤ (atP s i).1 ∧ (atP s i).1 ≤ 9223372036854775807) ∧ 1 ≤ (atP s i).2 ∧ (atP s i).2 ≤ 4 := by
  have h0 := bN_lt s i
  have l1 := lowV_le s (i + 1); have l2 := lowV_le s (i + 2); have l3 := lowV_le s (i + 3)
  unfold atP
  simp only
  split
  · exact ⟨by simp only; omega, by simp only; omega⟩
  split
  · exact ⟨by simp only; omega, by simp only; omega⟩
  split
  · exact ⟨by simp only; omega, by simp only; omega⟩
  · exact ⟨by simp only; omega, by simp only; omega⟩
theorem sub_extract (s : ByteArray) (i n : Nat) (h : i + n ≤ s.size) : s.extract i (i + n) = strB (sub s i n) := by
  have e1 : (s.extract i (i + n)).data = s.data.extract i (i + n) := by simp
  cases hs : s.extract i (i + n) with
  | mk d =>
    rw [hs] at e1
    simp only at e1
    subst e1
    unfold strB sub
    congr 1
    apply Array.toList_inj.1
    simp [Array.toList_extract, List.extract]
theorem At_calls (s : ByteArray) (i : Nat) (hi : i < s.size) (hs : s.size ≤ 4611686018427387904) (w : World) :
    Calls Tryd.prog 54 ⟨[.string s, .int .i64 i]⟩ w fun e w' => e = .returned (.tuple #[.int .i64 (atV s i).1, .int .i64 (atV s i).2]) ∧ Below w.heap.size w w' := by
  have hb : btAt s i = bN s i := rfl
  have h0 := bN_lt s i
  have l1 := lowV_le s (i + 1); have l2 := lowV_le s (i + 2); have l3 := lowV_le s (i + 3)
  refine gc_enter (N := 93) Tryd.func54 rfl rfl rfl [(0, _), (1, _)] rfl ?_
  have hS := St.start w
  refine gc_seq fun K1 hK1 => ?_
  refine gc_region ?_
  refine gl_op rfl rfl rfl (op_pure hT rfl) ?_
  refine gl_op rfl rfl rfl (op_pure hT rfl) ?_
  refine gl_nil ?_
  refine hK1 _ _ ?_
  clear hK1; try clear K1
  refine gc_seq fun K2 hK2 => ?_
  refine gc_region ?_
  refine gl_op rfl rfl rfl (op_pure hT rfl) ?_
  refine gl_op rfl rfl rfl (op_pure hT rfl) ?_
  refine gl_op rfl rfl rfl (op_index hT rfl rfl rfl rfl (by omega) (by omega)) ?_
  refine gl_op rfl rfl rfl (op_pure hT rfl) ?_
  refine gl_spell 13 (v := .int .i64 (bN s i : Nat)) rfl (by rw [hb, wrap_i64 (by omega)]) ?_
  refine gl_op rfl rfl rfl (op_pure hT rfl) ?_
  refine gl_nil ?_
  refine hK2 _ _ ?_
  clear hK2; try clear K2
  refine gc_seq fun K3 hK3 => ?_
  refine gc_region ?_
  refine gl_op rfl rfl rfl (op_pure hT rfl) ?_
  refine gl_op rfl rfl rfl (op_pure hT rfl) ?_
  refine gl_nil ?_
  refine hK3 _ _ ?_
  clear hK3; try clear K3
  refine gc_seq fun K4 hK4 => ?_
  refine gc_region ?_
  refine gl_op rfl rfl rfl (op_pure hT rfl) ?_
  refine gl_nil ?_
  refine hK4 _ _ ?_
  clear hK4; try clear K4
  refine gc_cut (fun a w' => w = w' ∧ Fr 93 a [(0, .string s), (1, .int .i64 i), (7, .int .i64 (atP s i).1), (8, .int .i64 ((atP s i).2 : Nat))]) ?_ ?_
  · skip
    refine gc_block ?_
    refine gc_seq fun K5 hK5 => ?_
    refine gc_region ?_
    refine gl_op rfl rfl rfl (op_pure hT rfl) ?_
    refine gl_op rfl rfl rfl (op_pure hT rfl) ?_
    refine gl_op rfl rfl rfl (op_pure hT rfl) ?_
    refine gl_nil ?_
    refine hK5 _ _ ?_
    clear hK5; try clear K5
    refine gc_cond rfl rfl (fun c15 => ?_) (fun c15 => ?_)
    · try simp only [decide_eq_true_eq, decide_eq_false_iff_not, Bool.not_eq_true', Bool.not_eq_false', Int.not_lt, Int.not_le, Nat.not_lt, Nat.not_le, Bool.true_eq, Bool.false_eq, reduceCtorEq] at c15
      refine gc_seq fun K6 hK6 => ?_
      refine gc_region ?_
      refine gl_op rfl rfl rfl (op_pure hT rfl) ?_
      first | refine gl_fit hT rfl rfl rfl rfl (by omega) ?_ | refine gl_op rfl rfl rfl (op_pure hT rfl) ?_
      first | refine gl_fit hT rfl rfl rfl rfl (by omega) ?_ | refine gl_op rfl rfl rfl (op_pure hT rfl) ?_
      refine gl_op rfl rfl rfl (op_pure hT rfl) ?_
      refine gl_op rfl rfl rfl (op_pure hT rfl) ?_
      first | refine gl_fit hT rfl rfl rfl rfl (by omega) ?_ | refine gl_op rfl rfl rfl (op_pure hT rfl) ?_
      refine gl_callf rfl rfl rfl rfl Tryd.func66 rfl rfl rfl (low_calls s (i + 1) hs _) ?_
      rintro _ w24 ⟨rfl, rfl⟩
      refine ⟨_, rfl, ?_⟩
      first | refine gl_fit hT rfl rfl rfl rfl (by omega) ?_ | refine gl_op rfl rfl rfl (op_pure hT rfl) ?_
      first | refine gl_fit hT rfl rfl rfl rfl (by omega) ?_ | refine gl_op rfl rfl rfl (op_pure hT rfl) ?_
      refine gl_op rfl rfl rfl (op_pure hT rfl) ?_
      refine gl_op rfl rfl rfl (op_pure hT rfl) ?_
      first | refine gl_fit hT rfl rfl rfl rfl (by omega) ?_ | refine gl_op rfl rfl rfl (op_pure hT rfl) ?_
      refine gl_callf rfl rfl rfl rfl Tryd.func66 rfl rfl rfl (low_calls s (i + 2) hs _) ?_
      rintro _ w30 ⟨rfl, rfl⟩
      refine ⟨_, rfl, ?_⟩
      first | refine gl_fit hT rfl rfl rfl rfl (by omega) ?_ | refine gl_op rfl rfl rfl (op_pure hT rfl) ?_
      first | refine gl_fit hT rfl rfl rfl rfl (by omega) ?_ | refine gl_op rfl rfl rfl (op_pure hT rfl) ?_
      refine gl_op rfl rfl rfl (op_pure hT rfl) ?_
      refine gl_op rfl rfl rfl (op_pure hT rfl) ?_
      first | refine gl_fit hT rfl rfl rfl rfl (by omega) ?_ | refine gl_op rfl rfl rfl (op_pure hT rfl) ?_
      refine gl_callf rfl rfl rfl rfl Tryd.func66 rfl rfl rfl (low_calls s (i + 3) hs _) ?_
      rintro _ w36 ⟨rfl, rfl⟩
      refine ⟨_, rfl, ?_⟩
      first | refine gl_fit hT rfl rfl rfl rfl (by omega) ?_ | refine gl_op rfl rfl rfl (op_pure hT rfl) ?_
      refine gl_op rfl rfl rfl (op_pure hT rfl) ?_
      refine gl_nil ?_
      refine hK6 _ _ ?_
      clear hK6; try clear K6
      refine gc_region ?_
      refine gl_op rfl rfl rfl (op_pure hT rfl) ?_
      refine gl_nil ?_
      intro a ha
      refine ⟨rfl, ?_⟩
      first
        | (have e1 : atP s i = (((bN s i : Int) - 240) * 262144 + lowV s (i + 1) * 4096 + lowV s (i + 2) * 64 + lowV s (i + 3), 4) := by unfold atP; simp only; rw [if_pos (by omega)]
           rw [e1]; exact ha.sub ⟨rfl, rfl, rfl, rfl, trivial⟩)
        | (have e1 : atP s i = (((bN s i : Int) - 224) * 4096 + lowV s (i + 1) * 64 + lowV s (i + 2), 3) := by unfold atP; simp only; rw [if_neg (by omega), if_pos (by omega)]
           rw [e1]; exact ha.sub ⟨rfl, rfl, rfl, rfl, trivial⟩)
        | (have e1 : atP s i = (((bN s i : Int) - 192) * 64 + lowV s (i + 1), 2) := by unfold atP; simp only; rw [if_neg (by omega), if_neg (by omega), if_pos (by omega)]
           rw [e1]; exact ha.sub ⟨rfl, rfl, rfl, rfl, trivial⟩)
        | (have e1 : atP s i = ((bN s i : Int), 1) := by unfold atP; simp only; rw [if_neg (by omega), if_neg (by omega), if_neg (by omega)]
           rw [e1]; exact ha.sub ⟨rfl, rfl, rfl, rfl, trivial⟩)
    · try simp only [decide_eq_true_eq, decide_eq_false_iff_not, Bool.not_eq_true', Bool.not_eq_false', Int.not_lt, Int.not_le, Nat.not_lt, Nat.not_le, Bool.true_eq, Bool.false_eq, reduceCtorEq] at c15
      refine gc_seq fun K7 hK7 => ?_
      refine gc_region ?_
      refine gl_op rfl rfl rfl (op_pure hT rfl) ?_
      refine gl_op rfl rfl rfl (op_pure hT rfl) ?_
      refine gl_op rfl rfl rfl (op_pure hT rfl) ?_
      refine gl_nil ?_
      refine hK7 _ _ ?_
      clear hK7; try clear K7
      refine gc_cond rfl rfl (fun c38 => ?_) (fun c38 => ?_)
      · try simp only [decide_eq_true_eq, decide_eq_false_iff_not, Bool.not_eq_true', Bool.not_eq_false', Int.not_lt, Int.not_le, Nat.not_lt, Nat.not_le, Bool.true_eq, Bool.false_eq, reduceCtorEq] at c38
        refine gc_seq fun K8 hK8 => ?_
        refine gc_region ?_
        refine gl_op rfl rfl rfl (op_pure hT rfl) ?_
        first | refine gl_fit hT rfl rfl rfl rfl (by omega) ?_ | refine gl_op rfl rfl rfl (op_pure hT rfl) ?_
        first | refine gl_fit hT rfl rfl rfl rfl (by omega) ?_ | refine gl_op rfl rfl rfl (op_pure hT rfl) ?_
        refine gl_op rfl rfl rfl (op_pure hT rfl) ?_
        refine gl_op rfl rfl rfl (op_pure hT rfl) ?_
        first | refine gl_fit hT rfl rfl rfl rfl (by omega) ?_ | refine gl_op rfl rfl rfl (op_pure hT rfl) ?_
        refine gl_callf rfl rfl rfl rfl Tryd.func66 rfl rfl rfl (low_calls s (i + 1) hs _) ?_
        rintro _ w47 ⟨rfl, rfl⟩
        refine ⟨_, rfl, ?_⟩
        first | refine gl_fit hT rfl rfl rfl rfl (by omega) ?_ | refine gl_op rfl rfl rfl (op_pure hT rfl) ?_
        first | refine gl_fit hT rfl rfl rfl rfl (by omega) ?_ | refine gl_op rfl rfl rfl (op_pure hT rfl) ?_
        refine gl_op rfl rfl rfl (op_pure hT rfl) ?_
        refine gl_op rfl rfl rfl (op_pure hT rfl) ?_
        first | refine gl_fit hT rfl rfl rfl rfl (by omega) ?_ | refine gl_op rfl rfl rfl (op_pure hT rfl) ?_
        refine gl_callf rfl rfl rfl rfl Tryd.func66 rfl rfl rfl (low_calls s (i + 2) hs _) ?_
        rintro _ w53 ⟨rfl, rfl⟩
        refine ⟨_, rfl, ?_⟩
        first | refine gl_fit hT rfl rfl rfl rfl (by omega) ?_ | refine gl_op rfl rfl rfl (op_pure hT rfl) ?_
        refine gl_op rfl rfl rfl (op_pure hT rfl) ?_
        refine gl_nil ?_
        refine hK8 _ _ ?_
        clear hK8; try clear K8
        refine gc_region ?_
        refine gl_op rfl rfl rfl (op_pure hT rfl) ?_
        refine gl_nil ?_
        intro a ha
        refine ⟨rfl, ?_⟩
        first
          | (have e1 : atP s i = (((bN s i : Int) - 240) * 262144 + lowV s (i + 1) * 4096 + lowV s (i + 2) * 64 + lowV s (i + 3), 4) := by unfold atP; simp only; rw [if_pos (by omega)]
             rw [e1]; exact ha.sub ⟨rfl, rfl, rfl, rfl, trivial⟩)
          | (have e1 : atP s i = (((bN s i : Int) - 224) * 4096 + lowV s (i + 1) * 64 + lowV s (i + 2), 3) := by unfold atP; simp only; rw [if_neg (by omega), if_pos (by omega)]
             rw [e1]; exact ha.sub ⟨rfl, rfl, rfl, rfl, trivial⟩)
          | (have e1 : atP s i = (((bN s i : Int) - 192) * 64 + lowV s (i + 1), 2) := by unfold atP; simp only; rw [if_neg (by omega), if_neg (by omega), if_pos (by omega)]
             rw [e1]; exact ha.sub ⟨rfl, rfl, rfl, rfl, trivial⟩)
          | (have e1 : atP s i = ((bN s i : Int), 1) := by unfold atP; simp only; rw [if_neg (by omega), if_neg (by omega), if_neg (by omega)]
             rw [e1]; exact ha.sub ⟨rfl, rfl, rfl, rfl, trivial⟩)
      · try simp only [decide_eq_true_eq, decide_eq_false_iff_not, Bool.not_eq_true', Bool.not_eq_false', Int.not_lt, Int.not_le, Nat.not_lt, Nat.not_le, Bool.true_eq, Bool.false_eq, reduceCtorEq] at c38
        refine gc_seq fun K9 hK9 => ?_
        refine gc_region ?_
        refine gl_op rfl rfl rfl (op_pure hT rfl) ?_
        refine gl_op rfl rfl rfl (op_pure hT rfl) ?_
        refine gl_op rfl rfl rfl (op_pure hT rfl) ?_
        refine gl_nil ?_
        refine hK9 _ _ ?_
        clear hK9; try clear K9
        refine gc_cond rfl rfl (fun c55 => ?_) (fun c55 => ?_)
        · try simp only [decide_eq_true_eq, decide_eq_false_iff_not, Bool.not_eq_true', Bool.not_eq_false', Int.not_lt, Int.not_le, Nat.not_lt, Nat.not_le, Bool.true_eq, Bool.false_eq, reduceCtorEq] at c55
          refine gc_seq fun K10 hK10 => ?_
          refine gc_region ?_
          refine gl_op rfl rfl rfl (op_pure hT rfl) ?_
          first | refine gl_fit hT rfl rfl rfl rfl (by omega) ?_ | refine gl_op rfl rfl rfl (op_pure hT rfl) ?_
          first | refine gl_fit hT rfl rfl rfl rfl (by omega) ?_ | refine gl_op rfl rfl rfl (op_pure hT rfl) ?_
          refine gl_op rfl rfl rfl (op_pure hT rfl) ?_
          refine gl_op rfl rfl rfl (op_pure hT rfl) ?_
          first | refine gl_fit hT rfl rfl rfl rfl (by omega) ?_ | refine gl_op rfl rfl rfl (op_pure hT rfl) ?_
          refine gl_callf rfl rfl rfl rfl Tryd.func66 rfl rfl rfl (low_calls s (i + 1) hs _) ?_
          rintro _ w64 ⟨rfl, rfl⟩
          refine ⟨_, rfl, ?_⟩
          first | refine gl_fit hT rfl rfl rfl rfl (by omega) ?_ | refine gl_op rfl rfl rfl (op_pure hT rfl) ?_
          refine gl_op rfl rfl rfl (op_pure hT rfl) ?_
          refine gl_nil ?_
          refine hK10 _ _ ?_
          clear hK10; try clear K10
          refine gc_region ?_
          refine gl_op rfl rfl rfl (op_pure hT rfl) ?_
          refine gl_nil ?_
          intro a ha
          refine ⟨rfl, ?_⟩
          first
            | (have e1 : atP s i = (((bN s i : Int) - 240) * 262144 + lowV s (i + 1) * 4096 + lowV s (i + 2) * 64 + lowV s (i + 3), 4) := by unfold atP; simp only; rw [if_pos (by omega)]
               rw [e1]; exact ha.sub ⟨rfl, rfl, rfl, rfl, trivial⟩)
            | (have e1 : atP s i = (((bN s i : Int) - 224) * 4096 + lowV s (i + 1) * 64 + lowV s (i + 2), 3) := by unfold atP; simp only; rw [if_neg (by omega), if_pos (by omega)]
               rw [e1]; exact ha.sub ⟨rfl, rfl, rfl, rfl, trivial⟩)
            | (have e1 : atP s i = (((bN s i : Int) - 192) * 64 + lowV s (i + 1), 2) := by unfold atP; simp only; rw [if_neg (by omega), if_neg (by omega), if_pos (by omega)]
               rw [e1]; exact ha.sub ⟨rfl, rfl, rfl, rfl, trivial⟩)
            | (have e1 : atP s i = ((bN s i : Int), 1) := by unfold atP; simp only; rw [if_neg (by omega), if_neg (by omega), if_neg (by omega)]
               rw [e1]; exact ha.sub ⟨rfl, rfl, rfl, rfl, trivial⟩)
        · try simp only [decide_eq_true_eq, decide_eq_false_iff_not, Bool.not_eq_true', Bool.not_eq_false', Int.not_lt, Int.not_le, Nat.not_lt, Nat.not_le, Bool.true_eq, Bool.false_eq, reduceCtorEq] at c55
          refine gc_skip ?_
          intro a ha
          refine ⟨rfl, ?_⟩
          first
            | (have e1 : atP s i = (((bN s i : Int) - 240) * 262144 + lowV s (i + 1) * 4096 + lowV s (i + 2) * 64 + lowV s (i + 3), 4) := by unfold atP; simp only; rw [if_pos (by omega)]
               rw [e1]; exact ha.sub ⟨rfl, rfl, rfl, rfl, trivial⟩)
            | (have e1 : atP s i = (((bN s i : Int) - 224) * 4096 + lowV s (i + 1) * 64 + lowV s (i + 2), 3) := by unfold atP; simp only; rw [if_neg (by omega), if_pos (by omega)]
               rw [e1]; exact ha.sub ⟨rfl, rfl, rfl, rfl, trivial⟩)
            | (have e1 : atP s i = (((bN s i : Int) - 192) * 64 + lowV s (i + 1), 2) := by unfold atP; simp only; rw [if_neg (by omega), if_neg (by omega), if_pos (by omega)]
               rw [e1]; exact ha.sub ⟨rfl, rfl, rfl, rfl, trivial⟩)
            | (have e1 : atP s i = ((bN s i : Int), 1) := by unfold atP; simp only; rw [if_neg (by omega), if_neg (by omega), if_neg (by omega)]
               rw [e1]; exact ha.sub ⟨rfl, rfl, rfl, rfl, trivial⟩)
  rintro a _ ⟨rfl, hF⟩
  refine gc_of hF ?_
  have hbd := atP_bounds s i
  refine gc_seq fun K11 hK11 => ?_
  refine gc_region ?_
  refine gl_op rfl rfl rfl (op_pure hT rfl) ?_
  refine gl_callf rfl rfl rfl rfl Tryd.func24 rfl rfl rfl (Point_calls (atP s i).1 hbd.1 _) ?_
  rintro _ w67 ⟨A67, c67, rfl, hr67, hb67⟩
  refine ⟨_, rfl, ?_⟩
  have hS := hS.addRow hb67 hr67
  refine gl_op rfl rfl rfl (op_pure hT rfl) ?_
  refine gl_nil ?_
  refine hK11 _ _ ?_
  clear hK11; try clear K11
  refine gc_seq fun K12 hK12 => ?_
  refine gc_seq fun K13 hK13 => ?_
  refine gc_quiet (by kernel_rfl) (by kernel_rfl) ?_
  refine gq_op rfl rfl rfl (op_pure hT rfl) ?_
  refine gq_op rfl rfl rfl (op_pure hT rfl) ?_
  first | refine gq_fit hT rfl rfl rfl rfl (by omega) ?_ | refine gq_op rfl rfl rfl (op_pure hT rfl) ?_
  refine gq_op rfl rfl rfl (op_pure hT rfl) ?_
  refine gq_op rfl rfl rfl (op_pure hT rfl) ?_
  refine gq_op rfl rfl rfl (op_pure hT rfl) ?_
  refine gq_op rfl rfl rfl (op_pure hT rfl) ?_
  refine gq_split (t := 74) rfl (fun c74 => ?_) (fun c74 => ?_)
  · try simp only [decide_eq_true_eq, decide_eq_false_iff_not, Bool.not_eq_true', Bool.not_eq_false', Int.not_lt, Int.not_le, Nat.not_lt, Nat.not_le, Bool.true_eq, Bool.false_eq, reduceCtorEq] at c74
    refine gq_pass rfl rfl rfl rfl rfl rfl ?_
    refine gq_pass rfl rfl rfl rfl rfl rfl ?_
    refine gq_pass rfl rfl rfl rfl rfl rfl ?_
    refine gq_pass rfl rfl rfl rfl rfl rfl ?_
    refine gq_op rfl rfl rfl (op_pure hT rfl) ?_
    refine gq_op rfl rfl rfl (op_pure hT rfl) ?_
    refine gq_pass rfl rfl rfl rfl rfl rfl ?_
    refine gq_pass rfl rfl rfl rfl rfl rfl ?_
    refine gq_pass rfl rfl rfl rfl rfl rfl ?_
    refine gq_pass rfl rfl rfl rfl rfl rfl ?_
    refine gq_pass rfl rfl rfl rfl rfl rfl ?_
    refine gq_pass rfl rfl rfl rfl rfl rfl ?_
    refine gq_pass rfl rfl rfl rfl rfl rfl ?_
    refine gq_pass rfl rfl rfl rfl rfl rfl ?_
    refine gq_pass rfl rfl rfl rfl rfl rfl ?_
    refine gq_op rfl rfl rfl (op_pure hT rfl) ?_
    refine gq_nil fun nq1 => ?_
    have hS := hS.dr nq1
    refine hK13 _ _ ?_
    clear hK13; try clear K13
    refine gc_cond_t rfl ?_
    refine gc_seq fun K14 hK14 => ?_
    refine gc_region ?_
    refine gl_op rfl rfl rfl (op_pure hT rfl) ?_
    refine gl_op rfl rfl rfl (op_pure hT rfl) ?_
    refine gl_nil ?_
    refine hK14 _ _ ?_
    clear hK14; try clear K14
    refine gc_ret ?_
    try simp only [x_then_ret, x_block_ret]
    refine gk_ret2 rfl rfl rfl ?_
    exact ⟨by unfold atV; rw [if_pos (.inl (by omega))], hS.below⟩
  · try simp only [decide_eq_true_eq, decide_eq_false_iff_not, Bool.not_eq_true', Bool.not_eq_false', Int.not_lt, Int.not_le, Nat.not_lt, Nat.not_le, Bool.true_eq, Bool.false_eq, reduceCtorEq] at c74
    refine gq_un rfl rfl rfl rfl ?_
    refine gq_op rfl rfl rfl (op_pure hT rfl) ?_
    refine gq_un rfl rfl rfl rfl ?_
    refine gq_op rfl rfl rfl (op_pure hT rfl) ?_
    refine gq_un rfl rfl rfl rfl ?_
    refine gq_op rfl rfl rfl (op_pure hT rfl) ?_
    refine gq_un rfl rfl rfl rfl ?_
    refine gq_op rfl rfl rfl (op_pure hT rfl) ?_
    refine gq_op rfl rfl rfl (op_pure hT rfl) ?_
    refine gq_op rfl rfl rfl (op_pure hT rfl) ?_
    refine gq_split (t := 80) rfl (fun c80 => ?_) (fun c80 => ?_)
    · try simp only [decide_eq_true_eq, decide_eq_false_iff_not, Bool.not_eq_true', Bool.not_eq_false', Int.not_lt, Int.not_le, Nat.not_lt, Nat.not_le, Bool.true_eq, Bool.false_eq, reduceCtorEq] at c80
      refine gq_pass rfl rfl rfl rfl rfl rfl ?_
      refine gq_pass rfl rfl rfl rfl rfl rfl ?_
      refine gq_pass rfl rfl rfl rfl rfl rfl ?_
      refine gq_pass rfl rfl rfl rfl rfl rfl ?_
      refine gq_pass rfl rfl rfl rfl rfl rfl ?_
      refine gq_pass rfl rfl rfl rfl rfl rfl ?_
      refine gq_pass rfl rfl rfl rfl rfl rfl ?_
      refine gq_pass rfl rfl rfl rfl rfl rfl ?_
      refine gq_pass rfl rfl rfl rfl rfl rfl ?_
      refine gq_op rfl rfl rfl (op_pure hT rfl) ?_
      refine gq_nil fun nq2 => ?_
      have hS := hS.dr nq2
      refine hK13 _ _ ?_
      clear hK13; try clear K13
      refine gc_cond_t rfl ?_
      refine gc_seq fun K15 hK15 => ?_
      refine gc_region ?_
      refine gl_op rfl rfl rfl (op_pure hT rfl) ?_
      refine gl_op rfl rfl rfl (op_pure hT rfl) ?_
      refine gl_nil ?_
      refine hK15 _ _ ?_
      clear hK15; try clear K15
      refine gc_ret ?_
      try simp only [x_then_ret, x_block_ret]
      refine gk_ret2 rfl rfl rfl ?_
      exact ⟨by rw [atV_bad (by omega)], hS.below⟩
    · try simp only [decide_eq_true_eq, decide_eq_false_iff_not, Bool.not_eq_true', Bool.not_eq_false', Int.not_lt, Int.not_le, Nat.not_lt, Nat.not_le, Bool.true_eq, Bool.false_eq, reduceCtorEq] at c80
      refine gq_un rfl rfl rfl rfl ?_
      refine gq_op rfl rfl rfl (op_pure hT rfl) ?_
      refine gq_un rfl rfl rfl rfl ?_
      refine gq_op rfl rfl rfl (op_b2s hT (hS.rdE (i := 0) rfl) rfl rfl rfl rfl rfl (by first | rfl | omega | (simp; omega))) ?_
      refine gq_un rfl rfl rfl rfl ?_
      refine gq_op rfl rfl rfl (op_pure hT rfl) ?_
      refine gq_un rfl rfl rfl rfl ?_
      refine gq_op rfl rfl rfl (op_pure hT rfl) ?_
      refine gq_un rfl rfl rfl rfl ?_
      refine gq_op rfl rfl rfl (op_pure hT rfl) ?_
      refine gq_un rfl rfl rfl rfl ?_
      refine gq_op rfl rfl rfl (op_pure hT rfl) ?_
      refine gq_un rfl rfl rfl rfl ?_
      first | refine gq_fit hT rfl rfl rfl rfl (by omega) ?_ | refine gq_op rfl rfl rfl (op_pure hT rfl) ?_
      refine gq_un rfl rfl rfl rfl ?_
      refine gq_op rfl rfl rfl (op_str_lh hT rfl rfl rfl rfl rfl (by first | omega | (simp; omega)) (by first | omega | (simp; omega)) (by first | omega | (simp; omega))) ?_
      refine gq_un rfl rfl rfl rfl ?_
      refine gq_op rfl rfl rfl (op_pure hT rfl) ?_
      refine gq_op rfl rfl rfl (op_pure hT rfl) ?_
      refine gq_nil fun nq3 => ?_
      have hS := hS.dr nq3
      refine hK13 _ _ ?_
      clear hK13; try clear K13
      refine gc_cond rfl rfl (fun c90 => ?_) (fun c90 => ?_)
      · try simp only [decide_eq_true_eq, decide_eq_false_iff_not, Bool.not_eq_true', Bool.not_eq_false', Int.not_lt, Int.not_le, Nat.not_lt, Nat.not_le, Bool.true_eq, Bool.false_eq, reduceCtorEq] at c90
        refine gc_seq fun K16 hK16 => ?_
        refine gc_region ?_
        refine gl_op rfl rfl rfl (op_pure hT rfl) ?_
        refine gl_op rfl rfl rfl (op_pure hT rfl) ?_
        refine gl_nil ?_
        refine hK16 _ _ ?_
        clear hK16; try clear K16
        refine gc_ret ?_
        try simp only [x_then_ret, x_block_ret]
        refine gk_ret2 rfl rfl rfl ?_
        have e1 : ((i : Int)).toNat = i := by omega
        have e2 : ((i : Int) + ((atP s i).2 : Nat)).toNat = i + (atP s i).2 := by omega
        rw [e1, e2, sub_extract s i _ (by omega)] at c90
        exact ⟨by unfold atV; rw [if_pos (.inr (.inr (fun h => c90 (by rw [h]))))], hS.below⟩
      · try simp only [decide_eq_true_eq, decide_eq_false_iff_not, Bool.not_eq_true', Bool.not_eq_false', Int.not_lt, Int.not_le, Nat.not_lt, Nat.not_le, Bool.true_eq, Bool.false_eq, reduceCtorEq] at c90
        refine gc_skip ?_
        refine hK12 _ _ ?_
        clear hK12; try clear K12
        refine gc_seq fun K17 hK17 => ?_
        refine gc_region ?_
        refine gl_op rfl rfl rfl (op_pure hT rfl) ?_
        refine gl_op rfl rfl rfl (op_pure hT rfl) ?_
        refine gl_op rfl rfl rfl (op_pure hT rfl) ?_
        refine gl_op rfl rfl rfl (op_pure hT rfl) ?_
        refine gl_nil ?_
        refine hK17 _ _ ?_
        clear hK17; try clear K17
        refine gc_ret ?_
        try simp only [x_then_ret, x_block_ret]
        refine gk_ret2 rfl rfl rfl ?_
        have e1 : ((i : Int)).toNat = i := by omega
        have e2 : ((i : Int) + ((atP s i).2 : Nat)).toNat = i + (atP s i).2 := by omega
        rw [e1, e2, sub_extract s i _ (by omega)] at c90
        have e3 := strB_inj c90
        have e4 : atV s i = ((atP s i).1, ((atP s i).2 : Int)) := by
          unfold atV
          rw [if_neg (fun h => h.elim (fun h => by omega) fun h => h.elim (fun h => h (by omega)) fun h => h e3)]
        exact ⟨by rw [e4], hS.below⟩
/-- A row of forms: how many. -/
theorem row_calls (s : ByteArray) (hs : s.size ≤ 4611686018427387904) (w : World) :
    Calls Tryd.prog 27 ⟨[.string s]⟩ w fun e w' => e = .returned (.tuple #[.int .i64 (runesV s).1, .bool (runesV s).2]) ∧ Below w.heap.size w w' := by
  refine gc_enter (N := 26) Tryd.func27 rfl rfl rfl [(0, _)] rfl ?_
  have hS := St.start w
  refine gc_seq fun K1 hK1 => ?_
  refine gc_region ?_
  refine gl_op rfl rfl rfl (op_pure hT rfl) ?_
  refine gl_op rfl rfl rfl (op_pure hT rfl) ?_
  refine gl_nil ?_
  refine hK1 _ _ ?_
  clear hK1; try clear K1
  refine gc_seq fun K2 hK2 => ?_
  refine gc_region ?_
  refine gl_op rfl rfl rfl (op_pure hT rfl) ?_
  refine gl_nil ?_
  refine hK2 _ _ ?_
  clear hK2; try clear K2
  refine gc_seq fun K3 hK3 => ?_
  refine gc_seq fun K4 hK4 => ?_
  refine gc_region ?_
  refine gl_op rfl rfl rfl (op_pure hT rfl) ?_
  refine gl_nil ?_
  refine hK4 _ _ ?_
  clear hK4; try clear K4
  refine gc_block ?_
  refine gc_loop (fun k a w' => ∃ (n pos : Nat), Fr 26 a [(0, .string s), (4, .int .i64 n), (5, .int .i64 pos)] ∧ n ≤ pos ∧ pos ≤ s.size ∧ s.size < k + pos ∧ runesFrom s k pos n = runesFrom s (s.size + 1) 0 0 ∧ St w.heap.size w w' []) (s.size + 1) ?_ ?_ ?_
  · intro a ha; exact ⟨0, 0, ha.sub ⟨rfl, rfl, rfl, trivial⟩, by omega, by omega, by omega, rfl, hS⟩
  · rintro a w ⟨n, pos, _, h1, h2, h3, _⟩; omega
  rintro f a w1 ⟨n, pos, hF, hn, hpos, hf, hr, hS⟩
  refine gc_of hF ?_
  refine gc_seq fun K5 hK5 => ?_
  refine gc_seq fun K6 hK6 => ?_
  refine gc_region ?_
  refine gl_op rfl rfl rfl (op_pure hT rfl) ?_
  refine gl_op rfl rfl rfl (op_pure hT rfl) ?_
  refine gl_op rfl rfl rfl (op_pure hT rfl) ?_
  refine gl_op rfl rfl rfl (op_pure hT rfl) ?_
  refine gl_nil ?_
  refine hK6 _ _ ?_
  clear hK6; try clear K6
  refine gc_cond rfl rfl (fun c11 => ?_) (fun c11 => ?_)
  · try simp only [decide_eq_true_eq, decide_eq_false_iff_not, Bool.not_eq_true', Bool.not_eq_false', Int.not_lt, Int.not_le, Nat.not_lt, Nat.not_le, Bool.true_eq, Bool.false_eq, reduceCtorEq] at c11
    refine gc_skip ?_
    refine hK5 _ _ ?_
    clear hK5; try clear K5
    refine gc_block ?_
    refine gc_seq fun K7 hK7 => ?_
    refine gc_region ?_
    refine gl_op rfl rfl rfl (op_pure hT rfl) ?_
    refine gl_op rfl rfl rfl (op_pure hT rfl) ?_
    have hlt : pos < s.size := by omega
    have hw1 := Lib.decode_width_pos s pos hlt
    have hdec := atV_decode s pos hlt
    have hfit := decode_fit s pos hlt
    have hmore := fun h => runesFrom_more (f := f) (n := n) hlt h
    have hav : (pos : Int) + (atV s pos).2 ≤ s.size ∧ 0 ≤ (atV s pos).2 := by
      rcases hdec with ⟨_, hv⟩ | ⟨_, hv⟩ <;> rw [hv] <;> simp only <;> omega
    refine gl_callf rfl rfl rfl rfl Tryd.func54 rfl rfl rfl (At_calls s pos hlt hs _) ?_
    rintro _ w15 ⟨rfl, hb15⟩
    refine ⟨_, rfl, ?_⟩
    have hS := hS.grown hb15
    refine gl_op rfl rfl rfl (op_pure hT rfl) ?_
    refine gl_op rfl rfl rfl (op_pure hT rfl) ?_
    refine gl_op rfl rfl rfl (op_pure hT rfl) ?_
    refine gl_op rfl rfl rfl (op_pure hT rfl) ?_
    refine gl_op rfl rfl rfl (op_pure hT rfl) ?_
    refine gl_nil ?_
    refine hK7 _ _ ?_
    clear hK7; try clear K7
    refine gc_seq fun K8 hK8 => ?_
    refine gc_seq fun K9 hK9 => ?_
    refine gc_region ?_
    refine gl_op rfl rfl rfl (op_pure hT rfl) ?_
    refine gl_op rfl rfl rfl (op_pure hT rfl) ?_
    refine gl_nil ?_
    refine hK9 _ _ ?_
    clear hK9; try clear K9
    refine gc_cond rfl rfl (fun c19 => ?_) (fun c19 => ?_)
    · try simp only [decide_eq_true_eq, decide_eq_false_iff_not, Bool.not_eq_true', Bool.not_eq_false', Int.not_lt, Int.not_le, Nat.not_lt, Nat.not_le, Bool.true_eq, Bool.false_eq, reduceCtorEq] at c19
      refine gc_seq fun K10 hK10 => ?_
      refine gc_region ?_
      refine gl_op rfl rfl rfl (op_pure hT rfl) ?_
      refine gl_op rfl rfl rfl (op_pure hT rfl) ?_
      refine gl_nil ?_
      refine hK10 _ _ ?_
      clear hK10; try clear K10
      refine gc_ret ?_
      try simp only [x_then_ret, x_block_ret]
      refine gk_ret2 rfl rfl rfl ?_
      have hbad : badAt s pos := by
        rcases hdec with ⟨h, _⟩ | ⟨_, hv⟩
        · exact h
        · rw [hv] at c19; simp only at c19; omega
      have e1 : runesV s = (0, false) := by unfold runesV; rw [← hr, runesFrom_bad hlt hbad.1 hbad.2]
      rw [e1]
      exact ⟨rfl, hS.below⟩
    · try simp only [decide_eq_true_eq, decide_eq_false_iff_not, Bool.not_eq_true', Bool.not_eq_false', Int.not_lt, Int.not_le, Nat.not_lt, Nat.not_le, Bool.true_eq, Bool.false_eq, reduceCtorEq] at c19
      refine gc_skip ?_
      refine hK8 _ _ ?_
      clear hK8; try clear K8
      refine gc_seq fun K11 hK11 => ?_
      refine gc_region ?_
      refine gl_op rfl rfl rfl (op_pure hT rfl) ?_
      refine gl_op rfl rfl rfl (op_pure hT rfl) ?_
      first | refine gl_fit hT rfl rfl rfl rfl (by omega) ?_ | refine gl_op rfl rfl rfl (op_pure hT rfl) ?_
      refine gl_op rfl rfl rfl (op_pure hT rfl) ?_
      refine gl_nil ?_
      refine hK11 _ _ ?_
      clear hK11; try clear K11
      refine gc_region ?_
      refine gl_op rfl rfl rfl (op_pure hT rfl) ?_
      first | refine gl_fit hT rfl rfl rfl rfl (by omega) ?_ | refine gl_op rfl rfl rfl (op_pure hT rfl) ?_
      refine gl_op rfl rfl rfl (op_pure hT rfl) ?_
      refine gl_nil ?_
      intro a ha
      rcases hdec with ⟨_, hv⟩ | ⟨hb, hv⟩
      · rw [hv] at c19; simp at c19
      · rw [hv] at ha
        exact ⟨n + 1, pos + (Utf8.decode s pos).2, ha.sub ⟨rfl, rfl, rfl, trivial⟩, by omega, hfit, by omega, by rw [← hr, hmore hb], hS⟩
  · try simp only [decide_eq_true_eq, decide_eq_false_iff_not, Bool.not_eq_true', Bool.not_eq_false', Int.not_lt, Int.not_le, Nat.not_lt, Nat.not_le, Bool.true_eq, Bool.false_eq, reduceCtorEq] at c11
    refine gc_exit ?_
    refine hK3 _ _ ?_
    clear hK3; try clear K3
    refine gc_seq fun K12 hK12 => ?_
    refine gc_region ?_
    refine gl_op rfl rfl rfl (op_pure hT rfl) ?_
    refine gl_op rfl rfl rfl (op_pure hT rfl) ?_
    refine gl_op rfl rfl rfl (op_pure hT rfl) ?_
    refine gl_nil ?_
    refine hK12 _ _ ?_
    clear hK12; try clear K12
    refine gc_ret ?_
    try simp only [x_then_ret, x_block_ret]
    refine gk_ret2 rfl rfl rfl ?_
    have e1 : runesV s = ((n : Int), true) := by unfold runesV; rw [← hr, runesFrom_end (by omega)]
    rw [e1]
    exact ⟨rfl, hS.below⟩
theorem rRunes_calls (s : ByteArray) (hs : s.size ≤ 4611686018427387904) (w : World) :
    Calls Tryd.prog 28 ⟨[.string s]⟩ w fun e w' => e = .returned (.tuple #[.int .i64 (runesV s).1, .bool (runesV s).2]) ∧ Below w.heap.size w w' := by
  refine gc_enter (N := 26) Tryd.func28 rfl rfl rfl [(0, _)] rfl ?_
  have hS := St.start w
  refine gc_seq fun K1 hK1 => ?_
  refine gc_region ?_
  refine gl_op rfl rfl rfl (op_pure hT rfl) ?_
  refine gl_op rfl rfl rfl (op_pure hT rfl) ?_
  refine gl_nil ?_
  refine hK1 _ _ ?_
  clear hK1; try clear K1
  refine gc_seq fun K2 hK2 => ?_
  refine gc_region ?_
  refine gl_op rfl rfl rfl (op_pure hT rfl) ?_
  refine gl_nil ?_
  refine hK2 _ _ ?_
  clear hK2; try clear K2
  refine gc_seq fun K3 hK3 => ?_
  refine gc_seq fun K4 hK4 => ?_
  refine gc_region ?_
  refine gl_op rfl rfl rfl (op_pure hT rfl) ?_
  refine gl_nil ?_
  refine hK4 _ _ ?_
  clear hK4; try clear K4
  refine gc_block ?_
  refine gc_loop (fun k a w' => ∃ (n pos : Nat), Fr 26 a [(0, .string s), (4, .int .i64 n), (5, .int .i64 pos)] ∧ n ≤ pos ∧ pos ≤ s.size ∧ s.size < k + pos ∧ runesFrom s k pos n = runesFrom s (s.size + 1) 0 0 ∧ St w.heap.size w w' []) (s.size + 1) ?_ ?_ ?_
  · intro a ha; exact ⟨0, 0, ha.sub ⟨rfl, rfl, rfl, trivial⟩, by omega, by omega, by omega, rfl, hS⟩
  · rintro a w ⟨n, pos, _, h1, h2, h3, _⟩; omega
  rintro f a w1 ⟨n, pos, hF, hn, hpos, hf, hr, hS⟩
  refine gc_of hF ?_
  refine gc_seq fun K5 hK5 => ?_
  refine gc_seq fun K6 hK6 => ?_
  refine gc_region ?_
  refine gl_op rfl rfl rfl (op_pure hT rfl) ?_
  refine gl_op rfl rfl rfl (op_pure hT rfl) ?_
  refine gl_op rfl rfl rfl (op_pure hT rfl) ?_
  refine gl_op rfl rfl rfl (op_pure hT rfl) ?_
  refine gl_nil ?_
  refine hK6 _ _ ?_
  clear hK6; try clear K6
  refine gc_cond rfl rfl (fun c11 => ?_) (fun c11 => ?_)
  · try simp only [decide_eq_true_eq, decide_eq_false_iff_not, Bool.not_eq_true', Bool.not_eq_false', Int.not_lt, Int.not_le, Nat.not_lt, Nat.not_le, Bool.true_eq, Bool.false_eq, reduceCtorEq] at c11
    refine gc_skip ?_
    refine hK5 _ _ ?_
    clear hK5; try clear K5
    refine gc_block ?_
    refine gc_seq fun K7 hK7 => ?_
    refine gc_region ?_
    refine gl_op rfl rfl rfl (op_pure hT rfl) ?_
    refine gl_op rfl rfl rfl (op_pure hT rfl) ?_
    have hlt : pos < s.size := by omega
    have hw1 := Lib.decode_width_pos s pos hlt
    have hdec := atV_decode s pos hlt
    have hfit := decode_fit s pos hlt
    have hmore := fun h => runesFrom_more (f := f) (n := n) hlt h
    have hav : (pos : Int) + (atV s pos).2 ≤ s.size ∧ 0 ≤ (atV s pos).2 := by
      rcases hdec with ⟨_, hv⟩ | ⟨_, hv⟩ <;> rw [hv] <;> simp only <;> omega
    refine gl_callf rfl rfl rfl rfl Tryd.func54 rfl rfl rfl (At_calls s pos hlt hs _) ?_
    rintro _ w15 ⟨rfl, hb15⟩
    refine ⟨_, rfl, ?_⟩
    have hS := hS.grown hb15
    refine gl_op rfl rfl rfl (op_pure hT rfl) ?_
    refine gl_op rfl rfl rfl (op_pure hT rfl) ?_
    refine gl_op rfl rfl rfl (op_pure hT rfl) ?_
    refine gl_op rfl rfl rfl (op_pure hT rfl) ?_
    refine gl_op rfl rfl rfl (op_pure hT rfl) ?_
    refine gl_nil ?_
    refine hK7 _ _ ?_
    clear hK7; try clear K7
    refine gc_seq fun K8 hK8 => ?_
    refine gc_seq fun K9 hK9 => ?_
    refine gc_region ?_
    refine gl_op rfl rfl rfl (op_pure hT rfl) ?_
    refine gl_op rfl rfl rfl (op_pure hT rfl) ?_
    refine gl_nil ?_
    refine hK9 _ _ ?_
    clear hK9; try clear K9
    refine gc_cond rfl rfl (fun c19 => ?_) (fun c19 => ?_)
    · try simp only [decide_eq_true_eq, decide_eq_false_iff_not, Bool.not_eq_true', Bool.not_eq_false', Int.not_lt, Int.not_le, Nat.not_lt, Nat.not_le, Bool.true_eq, Bool.false_eq, reduceCtorEq] at c19
      refine gc_seq fun K10 hK10 => ?_
      refine gc_region ?_
      refine gl_op rfl rfl rfl (op_pure hT rfl) ?_
      refine gl_op rfl rfl rfl (op_pure hT rfl) ?_
      refine gl_nil ?_
      refine hK10 _ _ ?_
      clear hK10; try clear K10
      refine gc_ret ?_
      try simp only [x_then_ret, x_block_ret]
      refine gk_ret2 rfl rfl rfl ?_
      have hbad : badAt s pos := by
        rcases hdec with ⟨h, _⟩ | ⟨_, hv⟩
        · exact h
        · rw [hv] at c19; simp only at c19; omega
      have e1 : runesV s = (0, false) := by unfold runesV; rw [← hr, runesFrom_bad hlt hbad.1 hbad.2]
      rw [e1]
      exact ⟨rfl, hS.below⟩
    · try simp only [decide_eq_true_eq, decide_eq_false_iff_not, Bool.not_eq_true', Bool.not_eq_false', Int.not_lt, Int.not_le, Nat.not_lt, Nat.not_le, Bool.true_eq, Bool.false_eq, reduceCtorEq] at c19
      refine gc_skip ?_
      refine hK8 _ _ ?_
      clear hK8; try clear K8
      refine gc_seq fun K11 hK11 => ?_
      refine gc_region ?_
      refine gl_op rfl rfl rfl (op_pure hT rfl) ?_
      refine gl_op rfl rfl rfl (op_pure hT rfl) ?_
      first | refine gl_fit hT rfl rfl rfl rfl (by omega) ?_ | refine gl_op rfl rfl rfl (op_pure hT rfl) ?_
      refine gl_op rfl rfl rfl (op_pure hT rfl) ?_
      refine gl_nil ?_
      refine hK11 _ _ ?_
      clear hK11; try clear K11
      refine gc_region ?_
      refine gl_op rfl rfl rfl (op_pure hT rfl) ?_
      first | refine gl_fit hT rfl rfl rfl rfl (by omega) ?_ | refine gl_op rfl rfl rfl (op_pure hT rfl) ?_
      refine gl_op rfl rfl rfl (op_pure hT rfl) ?_
      refine gl_nil ?_
      intro a ha
      rcases hdec with ⟨_, hv⟩ | ⟨hb, hv⟩
      · rw [hv] at c19; simp at c19
      · rw [hv] at ha
        exact ⟨n + 1, pos + (Utf8.decode s pos).2, ha.sub ⟨rfl, rfl, rfl, trivial⟩, by omega, hfit, by omega, by rw [← hr, hmore hb], hS⟩
  · try simp only [decide_eq_true_eq, decide_eq_false_iff_not, Bool.not_eq_true', Bool.not_eq_false', Int.not_lt, Int.not_le, Nat.not_lt, Nat.not_le, Bool.true_eq, Bool.false_eq, reduceCtorEq] at c11
    refine gc_exit ?_
    refine hK3 _ _ ?_
    clear hK3; try clear K3
    refine gc_seq fun K12 hK12 => ?_
    refine gc_region ?_
    refine gl_op rfl rfl rfl (op_pure hT rfl) ?_
    refine gl_op rfl rfl rfl (op_pure hT rfl) ?_
    refine gl_op rfl rfl rfl (op_pure hT rfl) ?_
    refine gl_nil ?_
    refine hK12 _ _ ?_
    clear hK12; try clear K12
    refine gc_ret ?_
    try simp only [x_then_ret, x_block_ret]
    refine gk_ret2 rfl rfl rfl ?_
    have e1 : runesV s = ((n : Int), true) := by unfold runesV; rw [← hr, runesFrom_end (by omega)]
    rw [e1]
    exact ⟨rfl, hS.below⟩
end Go.Proofs.YtpeomdobcobdiaaDoor
