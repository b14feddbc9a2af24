/- Texts with their length ahead, and the walk of WireTexts. No condition. -/
import Derived.Test.YtpeomdobcobdiaaDoorW10
import Derived.Test.YtpeomdobcobdiaaDoorWN
namespace Go.Proofs.YtpeomdobcobdiaaDoor
open Go.RowKit
set_option linter.unusedVariables false
set_option linter.unusedSimpArgs false
/-- A text's bytes. -/
def textV (s : ByteArray) : List UInt8 × Int := if (runesV s).2 = false then ([], 14) else (encU s.size ++ s.data.toList, 0)
theorem uintV_nat (n : Nat) : uintV (n : Int) = (encU n, 0) := by unfold uintV; rw [if_neg (by omega)]; rfl
theorem Text_calls (s : ByteArray) (hs : s.size ≤ 140737488000000) (w : World) (hU : Tabs w) :
    Calls Tryd.prog 29 ⟨[.string s]⟩ w fun e w' => ∃ A c, e = .returned (.tuple #[.slice A (textV s).1.length c, .int .i64 (textV s).2]) ∧
      Owns w' w.heap.size A c 5 1 (textV s).1.length ((textV s).1.map uB) ∧ Below w.heap.size w w' := by
  have hlen := encU_len 8 s.size (by omega)
  refine gc_enter (N := 25) Tryd.func29 rfl rfl rfl [(0, _)] rfl ?_
  have hS := St.start w
  refine gc_seq fun K1 hK1 => ?_
  refine gc_region ?_
  refine gl_op rfl rfl rfl (op_pure hT rfl) ?_
  refine gl_op rfl rfl rfl (op_pure hT rfl) ?_
  refine gl_nil ?_
  refine hK1 _ _ ?_
  clear hK1; try clear K1
  refine gc_seq fun K2 hK2 => ?_
  refine gc_seq fun K3 hK3 => ?_
  refine gc_region ?_
  refine gl_op rfl rfl rfl (op_pure hT rfl) ?_
  refine gl_callf rfl rfl rfl rfl Tryd.func25 rfl rfl rfl (Runes_calls s (by omega) _ hU) ?_
  rintro _ w10 ⟨rfl, hb10⟩
  refine ⟨_, rfl, ?_⟩
  have hS := hS.grown hb10
  refine gl_op rfl rfl rfl (op_pure hT rfl) ?_
  refine gl_op rfl rfl rfl (op_pure hT rfl) ?_
  refine gl_op rfl rfl rfl (op_pure hT rfl) ?_
  refine gl_op rfl rfl rfl (op_pure hT rfl) ?_
  refine gl_op rfl rfl rfl (op_pure hT rfl) ?_
  refine gl_nil ?_
  refine hK3 _ _ ?_
  clear hK3; try clear K3
  refine gc_seq fun K4 hK4 => ?_
  refine gc_region ?_
  refine gl_op rfl rfl rfl (op_pure hT rfl) ?_
  refine gl_op rfl rfl rfl (op_pure hT rfl) ?_
  refine gl_nil ?_
  refine hK4 _ _ ?_
  clear hK4; try clear K4
  refine gc_cond rfl rfl (fun c14 => ?_) (fun c14 => ?_)
  · try simp only [decide_eq_true_eq, decide_eq_false_iff_not, Bool.not_eq_true', Bool.not_eq_false', Int.not_lt, Int.not_le, Nat.not_lt, Nat.not_le, Bool.true_eq, Bool.false_eq, reduceCtorEq] at c14
    refine gc_seq fun K5 hK5 => ?_
    refine gc_region ?_
    refine gl_op rfl rfl rfl (op_pure hT rfl) ?_
    refine gl_op rfl rfl rfl (op_pure hT rfl) ?_
    refine gl_nil ?_
    refine hK5 _ _ ?_
    clear hK5; try clear K5
    refine gc_ret ?_
    try simp only [x_then_ret, x_block_ret]
    refine gk_ret2 rfl rfl rfl ?_
    have e1 : textV s = ([], 14) := by unfold textV; rw [if_pos c14]
    rw [e1]
    exact ⟨none, 0, rfl, owns_nil, hS.below⟩
  · try simp only [decide_eq_true_eq, decide_eq_false_iff_not, Bool.not_eq_true', Bool.not_eq_false', Int.not_lt, Int.not_le, Nat.not_lt, Nat.not_le, Bool.true_eq, Bool.false_eq, reduceCtorEq] at c14
    refine gc_skip ?_
    refine hK2 _ _ ?_
    clear hK2; try clear K2
    refine gc_seq fun K6 hK6 => ?_
    refine gc_region ?_
    refine gl_op rfl rfl rfl (op_pure hT rfl) ?_
    refine gl_op rfl rfl rfl (op_pure hT rfl) ?_
    refine gl_callf rfl rfl rfl rfl Tryd.func16 rfl rfl rfl (Uint_calls (s.size : Nat) (by omega) _) ?_
    rintro _ w18 ⟨A18, c18, rfl, hr18, hb18⟩
    refine ⟨_, rfl, ?_⟩
    have hS := hS.addRow hb18 hr18; rw [uintV_nat] at hS ⊢
    refine gl_op rfl rfl rfl (op_pure hT rfl) ?_
    refine gl_op rfl rfl rfl (op_pure hT rfl) ?_
    refine gl_op rfl rfl rfl (op_pure hT rfl) ?_
    refine gl_op rfl rfl rfl (op_pure hT rfl) ?_
    refine gl_op rfl rfl rfl (op_pure hT rfl) ?_
    refine gl_nil ?_
    refine hK6 _ _ ?_
    clear hK6; try clear K6
    refine gc_seq fun K7 hK7 => ?_
    refine gc_region ?_
    refine gl_op rfl rfl rfl (op_pure hT rfl) ?_
    refine gl_op rfl rfl rfl (op_pure hT rfl) ?_
    refine gl_appendS 0 hT hS el5 rfl rfl rfl rfl rfl rfl rfl rfl rfl (by first | omega | (simp; omega)) (by first | omega | (simp; omega)) fun A23 c23 w23 hS => ?_
    refine gl_callf rfl rfl rfl rfl Tryd.func51 rfl rfl rfl (Clip_calls _ _ _ (hS.cap (i := 0) rfl).1 _) ?_
    rintro _ _ ⟨rfl, n24, rfl⟩
    refine ⟨_, rfl, ?_⟩
    have hS := hS.dr n24
    refine gl_op rfl rfl rfl (op_pure hT rfl) ?_
    refine gl_op rfl rfl rfl (op_pure hT rfl) ?_
    refine gl_nil ?_
    refine hK7 _ _ ?_
    clear hK7; try clear K7
    refine gc_ret ?_
    try simp only [x_then_ret, x_block_ret]
    refine gk_ret2 rfl rfl rfl ?_
    have e1 : textV s = (encU s.size ++ s.data.toList, 0) := by unfold textV; rw [if_neg (by simp [c14])]
    have e2 : (encU s.size).length + s.size = (encU s.size ++ s.data.toList).length := by rw [List.length_append, Array.length_toList]; rfl
    obtain ⟨h2, h3⟩ := hS.out (i := 0) rfl
    have h4 := h2.clip (c' := (encU s.size).length + s.size) (Nat.le_refl _) h2.cap.1
    rw [e1]
    refine ⟨A23, (encU s.size).length + s.size, ?_, ?_, h3⟩
    · simp only [← e2]
    · simp only [← e2, List.map_append]; exact h4
theorem rText_calls (s : ByteArray) (hs : s.size ≤ 140737488000000) (w : World) :
    Calls Tryd.prog 30 ⟨[.string s]⟩ w fun e w' => ∃ A c, e = .returned (.tuple #[.slice A (textV s).1.length c, .int .i64 (textV s).2]) ∧
      Owns w' w.heap.size A c 5 1 (textV s).1.length ((textV s).1.map uB) ∧ Below w.heap.size w w' := by
  have hlen := encU_len 8 s.size (by omega)
  refine gc_enter (N := 24) Tryd.func30 rfl rfl rfl [(0, _)] rfl ?_
  have hS := St.start w
  refine gc_seq fun K1 hK1 => ?_
  refine gc_region ?_
  refine gl_op rfl rfl rfl (op_pure hT rfl) ?_
  refine gl_op rfl rfl rfl (op_pure hT rfl) ?_
  refine gl_nil ?_
  refine hK1 _ _ ?_
  clear hK1; try clear K1
  refine gc_seq fun K2 hK2 => ?_
  refine gc_region ?_
  refine gl_op rfl rfl rfl (op_pure hT rfl) ?_
  refine gl_callf rfl rfl rfl rfl Tryd.func28 rfl rfl rfl (rRunes_calls s (by omega) _) ?_
  rintro _ w10 ⟨rfl, hb10⟩
  refine ⟨_, rfl, ?_⟩
  have hS := hS.grown hb10
  refine gl_op rfl rfl rfl (op_pure hT rfl) ?_
  refine gl_op rfl rfl rfl (op_pure hT rfl) ?_
  refine gl_op rfl rfl rfl (op_pure hT rfl) ?_
  refine gl_op rfl rfl rfl (op_pure hT rfl) ?_
  refine gl_op rfl rfl rfl (op_pure hT rfl) ?_
  refine gl_nil ?_
  refine hK2 _ _ ?_
  clear hK2; try clear K2
  refine gc_seq fun K3 hK3 => ?_
  refine gc_seq fun K4 hK4 => ?_
  refine gc_region ?_
  refine gl_op rfl rfl rfl (op_pure hT rfl) ?_
  refine gl_op rfl rfl rfl (op_pure hT rfl) ?_
  refine gl_nil ?_
  refine hK4 _ _ ?_
  clear hK4; try clear K4
  refine gc_cond rfl rfl (fun c14 => ?_) (fun c14 => ?_)
  · try simp only [decide_eq_true_eq, decide_eq_false_iff_not, Bool.not_eq_true', Bool.not_eq_false', Int.not_lt, Int.not_le, Nat.not_lt, Nat.not_le, Bool.true_eq, Bool.false_eq, reduceCtorEq] at c14
    refine gc_seq fun K5 hK5 => ?_
    refine gc_region ?_
    refine gl_op rfl rfl rfl (op_pure hT rfl) ?_
    refine gl_op rfl rfl rfl (op_pure hT rfl) ?_
    refine gl_nil ?_
    refine hK5 _ _ ?_
    clear hK5; try clear K5
    refine gc_ret ?_
    try simp only [x_then_ret, x_block_ret]
    refine gk_ret2 rfl rfl rfl ?_
    have e1 : textV s = ([], 14) := by unfold textV; rw [if_pos c14]
    rw [e1]
    exact ⟨none, 0, rfl, owns_nil, hS.below⟩
  · try simp only [decide_eq_true_eq, decide_eq_false_iff_not, Bool.not_eq_true', Bool.not_eq_false', Int.not_lt, Int.not_le, Nat.not_lt, Nat.not_le, Bool.true_eq, Bool.false_eq, reduceCtorEq] at c14
    refine gc_skip ?_
    refine hK3 _ _ ?_
    clear hK3; try clear K3
    refine gc_seq fun K6 hK6 => ?_
    refine gc_region ?_
    refine gl_op rfl rfl rfl (op_pure hT rfl) ?_
    refine gl_op rfl rfl rfl (op_pure hT rfl) ?_
    refine gl_callf rfl rfl rfl rfl Tryd.func17 rfl rfl rfl (rUint_calls (s.size : Nat) (by omega) _) ?_
    rintro _ w18 ⟨A18, c18, rfl, hr18, hb18⟩
    refine ⟨_, rfl, ?_⟩
    have hS := hS.addRow hb18 hr18; rw [uintV_nat] at hS ⊢
    refine gl_op rfl rfl rfl (op_pure hT rfl) ?_
    refine gl_op rfl rfl rfl (op_pure hT rfl) ?_
    refine gl_op rfl rfl rfl (op_pure hT rfl) ?_
    refine gl_op rfl rfl rfl (op_pure hT rfl) ?_
    refine gl_op rfl rfl rfl (op_pure hT rfl) ?_
    refine gl_nil ?_
    refine hK6 _ _ ?_
    clear hK6; try clear K6
    refine gc_seq fun K7 hK7 => ?_
    refine gc_region ?_
    refine gl_op rfl rfl rfl (op_pure hT rfl) ?_
    refine gl_op rfl rfl rfl (op_pure hT rfl) ?_
    refine gl_appendS 0 hT hS el5 rfl rfl rfl rfl rfl rfl rfl rfl rfl (by first | omega | (simp; omega)) (by first | omega | (simp; omega)) fun A23 c23 w23 hS => ?_
    refine gl_op rfl rfl rfl (op_pure hT rfl) ?_
    refine gl_op rfl rfl rfl (op_pure hT rfl) ?_
    refine gl_nil ?_
    refine hK7 _ _ ?_
    clear hK7; try clear K7
    refine gc_ret ?_
    try simp only [x_then_ret, x_block_ret]
    refine gk_ret2 rfl rfl rfl ?_
    have e1 : textV s = (encU s.size ++ s.data.toList, 0) := by unfold textV; rw [if_neg (by simp [c14])]
    have e2 : (encU s.size).length + s.size = (encU s.size ++ s.data.toList).length := by rw [List.length_append, Array.length_toList]; rfl
    obtain ⟨h2, h3⟩ := hS.out (i := 0) rfl
    rw [e1]
    refine ⟨A23, c23, ?_, ?_, h3⟩
    · simp only [← e2]
    · simp only [← e2, List.map_append]; exact h2
theorem part_calls (A : Option Addr) (c : Nat) (l : List UInt8) (lo n : Nat) (w : World) {ok : Nat → Prop} (h1 : RdE w ok uB A l) (hl : lo + n ≤ l.length) (hc : l.length ≤ c) (hb : n ≤ 140737488355328) (hb2 : l.length ≤ 4611686018427387904) :
    Calls Tryd.prog 55 ⟨[.slice A l.length c, .int .i64 lo, .int .i64 ((lo : Int) + n)]⟩ w fun e w' => ∃ A' c', e = .returned (.slice A' n c') ∧
      Owns w' w.heap.size A' c' 5 1 n (((l.drop lo).take n).map uB) ∧ Below w.heap.size w w' := by
  refine gc_enter (N := 14) Tryd.func55 rfl rfl rfl [(0, _), (1, _), (2, _)] rfl ?_
  have hS := St.start w
  refine gc_seq fun K1 hK1 => ?_
  refine gc_region ?_
  refine gl_op rfl rfl rfl (op_pure hT rfl) ?_
  refine gl_nil ?_
  refine hK1 _ _ ?_
  clear hK1; try clear K1
  refine gc_seq fun K2 hK2 => ?_
  refine gc_region ?_
  refine gl_op rfl rfl rfl (op_pure hT rfl) ?_
  refine gl_nil ?_
  refine hK2 _ _ ?_
  clear hK2; try clear K2
  refine gc_seq fun K3 hK3 => ?_
  refine gc_region ?_
  refine gl_op rfl rfl rfl (op_pure hT rfl) ?_
  refine gl_op rfl rfl rfl (op_pure hT rfl) ?_
  refine gl_op rfl rfl rfl (op_pure hT rfl) ?_
  refine gl_op rfl rfl rfl (op_pure hT rfl) ?_
  refine gl_op rfl rfl rfl (op_slice_lh hT el5 rfl rfl rfl rfl rfl (by omega) (by omega) (by omega)) ?_
  refine gl_spell 12 (v := .slice (if c = lo then A else A.map (·.add (lo * 1))) n (c - lo)) rfl ?_ ?_
  · have e1 : ((lo : Int)).toNat = lo := by omega
    have e2 : ((lo : Int) + (n : Int)).toNat - lo = n := by omega
    rw [e1, e2]
  refine gl_append0 hT hS el5 (((RdE.old h1 hS).drop (k := lo) (cap := c) (by omega) hc).pre (k := n) (by rw [List.length_drop]; omega)) (allOne_uB _) rfl rfl rfl rfl rfl rfl rfl (by first | omega | (simp; omega)) (by first | omega | (simp; omega)) fun A13 c13 w13 hS => ?_
  refine gl_op rfl rfl rfl (op_pure hT rfl) ?_
  refine gl_nil ?_
  refine hK3 _ _ ?_
  clear hK3; try clear K3
  refine gc_ret ?_
  try simp only [x_then_ret, x_block_ret]
  refine gk_ret1 rfl rfl ?_
  obtain ⟨h2, h3⟩ := hS.out (i := 0) rfl
  exact ⟨_, _, rfl, h2, h3⟩
theorem partI_calls (A : Option Addr) (c : Nat) (l : List UInt8) (lo n : Int) (w : World) {ok : Nat → Prop} (h1 : RdE w ok uB A l) (hlo : 0 ≤ lo) (hn : 0 ≤ n) (hl : lo + n ≤ l.length) (hc : l.length ≤ c) (hb : n ≤ 140737488355328) (hb2 : l.length ≤ 4611686018427387904) :
    Calls Tryd.prog 55 ⟨[.slice A l.length c, .int .i64 lo, .int .i64 (lo + n)]⟩ w fun e w' => ∃ A' c', e = .returned (.slice A' n.toNat c') ∧
      Owns w' w.heap.size A' c' 5 1 n.toNat (((l.drop lo.toNat).take n.toNat).map uB) ∧ Below w.heap.size w w' := by
  obtain ⟨lo, rfl⟩ := Int.eq_ofNat_of_zero_le hlo
  obtain ⟨n, rfl⟩ := Int.eq_ofNat_of_zero_le hn
  exact part_calls A c l lo n w h1 (by omega) hc (by omega) hb2
theorem rReadText_calls (A : Option Addr) (c : Nat) (l : List UInt8) (at_ most : Int) (w : World) {ok : Nat → Prop} (h1 : RdE w ok uB A l) (hb : l.length ≤ 140737488000000) (hc : l.length ≤ c) :
    Calls Tryd.prog 32 ⟨[.slice A l.length c, .int .i64 at_, .int .i64 most]⟩ w fun e w' => e = .returned (.tuple #[.string (readTextV l at_ most).1, .int .i64 (readTextV l at_ most).2.1, .int .i64 (readTextV l at_ most).2.2]) ∧ Below w.heap.size w w' := by
  refine gc_enter (N := 59) Tryd.func32 rfl rfl rfl [(0, _), (1, _), (2, _)] rfl ?_
  have hS := St.start w
  have hok := readUV_ok (l := l) (at_ := at_)
  refine gc_seq fun K1 hK1 => ?_
  refine gc_region ?_
  refine gl_op rfl rfl rfl (op_pure hT rfl) ?_
  refine gl_op rfl rfl rfl (op_pure hT rfl) ?_
  refine gl_op rfl rfl rfl (op_pure hT rfl) ?_
  refine gl_nil ?_
  refine hK1 _ _ ?_
  clear hK1; try clear K1
  refine gc_seq fun K2 hK2 => ?_
  refine gc_seq fun K3 hK3 => ?_
  refine gc_region ?_
  refine gl_op rfl rfl rfl (op_pure hT rfl) ?_
  refine gl_op rfl rfl rfl (op_pure hT rfl) ?_
  refine gl_callf rfl rfl rfl rfl Tryd.func52 rfl rfl rfl (outside_calls A c l at_ _) ?_
  rintro _ _ ⟨rfl, n17, rfl⟩
  refine ⟨_, rfl, ?_⟩
  have hS := hS.dr n17
  refine gl_op rfl rfl rfl (op_pure hT rfl) ?_
  refine gl_split (t := 18) rfl (fun c18 => ?_) (fun c18 => ?_)
  · try simp only [decide_eq_true_eq, decide_eq_false_iff_not, Bool.not_eq_true', Bool.not_eq_false', Int.not_lt, Int.not_le, Nat.not_lt, Nat.not_le, Bool.true_eq, Bool.false_eq, reduceCtorEq] at c18
    refine gl_pass rfl rfl rfl rfl rfl rfl ?_
    refine gl_pass rfl rfl rfl rfl rfl rfl ?_
    refine gl_op rfl rfl rfl (op_pure hT rfl) ?_
    refine gl_nil ?_
    refine hK3 _ _ ?_
    clear hK3; try clear K3
    refine gc_cond_t rfl ?_
    refine gc_seq fun K4 hK4 => ?_
    refine gc_region ?_
    refine gl_op rfl rfl rfl (op_pure hT rfl) ?_
    refine gl_op rfl rfl rfl (op_pure hT rfl) ?_
    refine gl_op rfl rfl rfl (op_pure hT rfl) ?_
    refine gl_nil ?_
    refine hK4 _ _ ?_
    clear hK4; try clear K4
    refine gc_ret ?_
    try simp only [x_then_ret, x_block_ret]
    refine gk_ret3 rfl rfl rfl rfl ?_
    exact ⟨by unfold readTextV; rw [if_pos (by omega)], hS.below⟩
  · try simp only [decide_eq_true_eq, decide_eq_false_iff_not, Bool.not_eq_true', Bool.not_eq_false', Int.not_lt, Int.not_le, Nat.not_lt, Nat.not_le, Bool.true_eq, Bool.false_eq, reduceCtorEq] at c18
    refine gl_un rfl rfl rfl rfl ?_
    refine gl_op rfl rfl rfl (op_pure hT rfl) ?_
    refine gl_un rfl rfl rfl rfl ?_
    refine gl_op rfl rfl rfl (op_pure hT rfl) ?_
    refine gl_op rfl rfl rfl (op_pure hT rfl) ?_
    refine gl_nil ?_
    refine hK3 _ _ ?_
    clear hK3; try clear K3
    refine gc_cond rfl rfl (fun c21 => ?_) (fun c21 => ?_)
    · try simp only [decide_eq_true_eq, decide_eq_false_iff_not, Bool.not_eq_true', Bool.not_eq_false', Int.not_lt, Int.not_le, Nat.not_lt, Nat.not_le, Bool.true_eq, Bool.false_eq, reduceCtorEq] at c21
      refine gc_seq fun K5 hK5 => ?_
      refine gc_region ?_
      refine gl_op rfl rfl rfl (op_pure hT rfl) ?_
      refine gl_op rfl rfl rfl (op_pure hT rfl) ?_
      refine gl_op rfl rfl rfl (op_pure hT rfl) ?_
      refine gl_nil ?_
      refine hK5 _ _ ?_
      clear hK5; try clear K5
      refine gc_ret ?_
      try simp only [x_then_ret, x_block_ret]
      refine gk_ret3 rfl rfl rfl rfl ?_
      exact ⟨by unfold readTextV; rw [if_pos (by omega)], hS.below⟩
    · try simp only [decide_eq_true_eq, decide_eq_false_iff_not, Bool.not_eq_true', Bool.not_eq_false', Int.not_lt, Int.not_le, Nat.not_lt, Nat.not_le, Bool.true_eq, Bool.false_eq, reduceCtorEq] at c21
      refine gc_skip ?_
      refine hK2 _ _ ?_
      clear hK2; try clear K2
      refine gc_seq fun K6 hK6 => ?_
      refine gc_region ?_
      refine gl_op rfl rfl rfl (op_pure hT rfl) ?_
      refine gl_op rfl rfl rfl (op_pure hT rfl) ?_
      refine gl_callf rfl rfl rfl rfl Tryd.func21 rfl rfl rfl (rReadUint_calls A c l at_ _ (h1.old hS) (by omega)) ?_
      rintro _ _ ⟨rfl, n25, rfl⟩
      refine ⟨_, rfl, ?_⟩
      have hS := hS.dr n25
      refine gl_op rfl rfl rfl (op_pure hT rfl) ?_
      refine gl_op rfl rfl rfl (op_pure hT rfl) ?_
      refine gl_op rfl rfl rfl (op_pure hT rfl) ?_
      refine gl_op rfl rfl rfl (op_pure hT rfl) ?_
      refine gl_op rfl rfl rfl (op_pure hT rfl) ?_
      refine gl_op rfl rfl rfl (op_pure hT rfl) ?_
      refine gl_op rfl rfl rfl (op_pure hT rfl) ?_
      refine gl_nil ?_
      refine hK6 _ _ ?_
      clear hK6; try clear K6
      refine gc_seq fun K7 hK7 => ?_
      refine gc_seq fun K8 hK8 => ?_
      refine gc_region ?_
      refine gl_op rfl rfl rfl (op_pure hT rfl) ?_
      refine gl_op rfl rfl rfl (op_pure hT rfl) ?_
      refine gl_nil ?_
      refine hK8 _ _ ?_
      clear hK8; try clear K8
      refine gc_cond rfl rfl (fun c30 => ?_) (fun c30 => ?_)
      · try simp only [decide_eq_true_eq, decide_eq_false_iff_not, Bool.not_eq_true', Bool.not_eq_false', Int.not_lt, Int.not_le, Nat.not_lt, Nat.not_le, Bool.true_eq, Bool.false_eq, reduceCtorEq] at c30
        refine gc_seq fun K9 hK9 => ?_
        refine gc_region ?_
        refine gl_op rfl rfl rfl (op_pure hT rfl) ?_
        refine gl_op rfl rfl rfl (op_pure hT rfl) ?_
        refine gl_op rfl rfl rfl (op_pure hT rfl) ?_
        refine gl_op rfl rfl rfl (op_pure hT rfl) ?_
        refine gl_nil ?_
        refine hK9 _ _ ?_
        clear hK9; try clear K9
        refine gc_ret ?_
        try simp only [x_then_ret, x_block_ret]
        refine gk_ret3 rfl rfl rfl rfl ?_
        have e1 : readTextV l at_ most = (⟨#[]⟩, 0, (readUV l at_).2.2) := by unfold readTextV; rw [if_neg (by omega)]; simp only; rw [if_pos (by simpa using c30)]
        rw [e1]
        exact ⟨rfl, hS.below⟩
      · try simp only [decide_eq_true_eq, decide_eq_false_iff_not, Bool.not_eq_true', Bool.not_eq_false', Int.not_lt, Int.not_le, Nat.not_lt, Nat.not_le, Bool.true_eq, Bool.false_eq, reduceCtorEq] at c30
        refine gc_skip ?_
        refine hK7 _ _ ?_
        clear hK7; try clear K7
        refine gc_seq fun K10 hK10 => ?_
        refine gc_seq fun K11 hK11 => ?_
        refine gc_region ?_
        have hok := hok (by simpa using c30)
        have hne : ¬ (readUV l at_).2.2 ≠ 0 := by simpa using c30
        refine gl_op rfl rfl rfl (op_pure hT rfl) ?_
        refine gl_op rfl rfl rfl (op_pure hT rfl) ?_
        refine gl_op rfl rfl rfl (op_pure hT rfl) ?_
        refine gl_nil ?_
        refine hK11 _ _ ?_
        clear hK11; try clear K11
        refine gc_cond rfl rfl (fun c34 => ?_) (fun c34 => ?_)
        · try simp only [decide_eq_true_eq, decide_eq_false_iff_not, Bool.not_eq_true', Bool.not_eq_false', Int.not_lt, Int.not_le, Nat.not_lt, Nat.not_le, Bool.true_eq, Bool.false_eq, reduceCtorEq] at c34
          refine gc_seq fun K12 hK12 => ?_
          refine gc_region ?_
          refine gl_op rfl rfl rfl (op_pure hT rfl) ?_
          refine gl_op rfl rfl rfl (op_pure hT rfl) ?_
          refine gl_op rfl rfl rfl (op_pure hT rfl) ?_
          refine gl_nil ?_
          refine hK12 _ _ ?_
          clear hK12; try clear K12
          refine gc_ret ?_
          try simp only [x_then_ret, x_block_ret]
          refine gk_ret3 rfl rfl rfl rfl ?_
          have e1 : readTextV l at_ most = (⟨#[]⟩, 0, 13) := by unfold readTextV; rw [if_neg (by omega)]; simp only; rw [if_neg hne, if_pos c34]
          rw [e1]
          exact ⟨rfl, hS.below⟩
        · try simp only [decide_eq_true_eq, decide_eq_false_iff_not, Bool.not_eq_true', Bool.not_eq_false', Int.not_lt, Int.not_le, Nat.not_lt, Nat.not_le, Bool.true_eq, Bool.false_eq, reduceCtorEq] at c34
          refine gc_skip ?_
          refine hK10 _ _ ?_
          clear hK10; try clear K10
          refine gc_seq fun K13 hK13 => ?_
          refine gc_seq fun K14 hK14 => ?_
          refine gc_region ?_
          refine gl_op rfl rfl rfl (op_pure hT rfl) ?_
          refine gl_op rfl rfl rfl (op_pure hT rfl) ?_
          refine gl_op rfl rfl rfl (op_pure hT rfl) ?_
          first | refine gl_fit hT rfl rfl rfl rfl (by omega) ?_ | refine gl_op rfl rfl rfl (op_pure hT rfl) ?_
          refine gl_op rfl rfl rfl (op_pure hT rfl) ?_
          refine gl_op rfl rfl rfl (op_pure hT rfl) ?_
          refine gl_nil ?_
          refine hK14 _ _ ?_
          clear hK14; try clear K14
          refine gc_cond rfl rfl (fun c40 => ?_) (fun c40 => ?_)
          · try simp only [decide_eq_true_eq, decide_eq_false_iff_not, Bool.not_eq_true', Bool.not_eq_false', Int.not_lt, Int.not_le, Nat.not_lt, Nat.not_le, Bool.true_eq, Bool.false_eq, reduceCtorEq] at c40
            refine gc_seq fun K15 hK15 => ?_
            refine gc_region ?_
            refine gl_op rfl rfl rfl (op_pure hT rfl) ?_
            refine gl_op rfl rfl rfl (op_pure hT rfl) ?_
            refine gl_op rfl rfl rfl (op_pure hT rfl) ?_
            refine gl_nil ?_
            refine hK15 _ _ ?_
            clear hK15; try clear K15
            refine gc_ret ?_
            try simp only [x_then_ret, x_block_ret]
            refine gk_ret3 rfl rfl rfl rfl ?_
            have e1 : readTextV l at_ most = (⟨#[]⟩, 0, 10) := by unfold readTextV; rw [if_neg (by omega)]; simp only; rw [if_neg hne, if_neg (by omega), if_pos c40]
            rw [e1]
            exact ⟨rfl, hS.below⟩
          · try simp only [decide_eq_true_eq, decide_eq_false_iff_not, Bool.not_eq_true', Bool.not_eq_false', Int.not_lt, Int.not_le, Nat.not_lt, Nat.not_le, Bool.true_eq, Bool.false_eq, reduceCtorEq] at c40
            refine gc_skip ?_
            refine hK13 _ _ ?_
            clear hK13; try clear K13
            refine gc_seq fun K16 hK16 => ?_
            refine gc_region ?_
            refine gl_op rfl rfl rfl (op_pure hT rfl) ?_
            refine gl_op rfl rfl rfl (op_pure hT rfl) ?_
            refine gl_op rfl rfl rfl (op_pure hT rfl) ?_
            refine gl_op rfl rfl rfl (op_pure hT rfl) ?_
            first | refine gl_fit hT rfl rfl rfl rfl (by omega) ?_ | refine gl_op rfl rfl rfl (op_pure hT rfl) ?_
            refine gl_callf rfl rfl rfl rfl Tryd.func55 rfl rfl rfl (partI_calls A c l (readUV l at_).2.1 (readUV l at_).1 _ (h1.old hS) (by omega) (by omega) (by omega) hc (by omega) (by omega)) ?_
            rintro _ w46 ⟨A46, c46, rfl, hr46, hb46⟩
            refine ⟨_, rfl, ?_⟩
            have hS := hS.addRow hb46 hr46
            refine gl_op rfl rfl rfl (op_b2s hT (hS.rdE (i := 0) rfl) rfl rfl rfl rfl rfl (by simp; omega)) ?_
            refine gl_op rfl rfl rfl (op_pure hT rfl) ?_
            refine gl_nil ?_
            refine hK16 _ _ ?_
            clear hK16; try clear K16
            refine gc_seq fun K17 hK17 => ?_
            refine gc_region ?_
            refine gl_op rfl rfl rfl (op_pure hT rfl) ?_
            refine gl_callf rfl rfl rfl rfl Tryd.func28 rfl rfl rfl (rRunes_calls _ (by rw [strB_size]; simp; omega) _) ?_
            rintro _ w50 ⟨rfl, hb50⟩
            refine ⟨_, rfl, ?_⟩
            have hS := hS.grown hb50
            refine gl_op rfl rfl rfl (op_pure hT rfl) ?_
            refine gl_op rfl rfl rfl (op_pure hT rfl) ?_
            refine gl_op rfl rfl rfl (op_pure hT rfl) ?_
            refine gl_op rfl rfl rfl (op_pure hT rfl) ?_
            refine gl_op rfl rfl rfl (op_pure hT rfl) ?_
            refine gl_nil ?_
            refine hK17 _ _ ?_
            clear hK17; try clear K17
            refine gc_seq fun K18 hK18 => ?_
            refine gc_seq fun K19 hK19 => ?_
            refine gc_region ?_
            refine gl_op rfl rfl rfl (op_pure hT rfl) ?_
            refine gl_op rfl rfl rfl (op_pure hT rfl) ?_
            refine gl_nil ?_
            refine hK19 _ _ ?_
            clear hK19; try clear K19
            refine gc_cond rfl rfl (fun c54 => ?_) (fun c54 => ?_)
            · try simp only [decide_eq_true_eq, decide_eq_false_iff_not, Bool.not_eq_true', Bool.not_eq_false', Int.not_lt, Int.not_le, Nat.not_lt, Nat.not_le, Bool.true_eq, Bool.false_eq, reduceCtorEq] at c54
              refine gc_seq fun K20 hK20 => ?_
              refine gc_region ?_
              refine gl_op rfl rfl rfl (op_pure hT rfl) ?_
              refine gl_op rfl rfl rfl (op_pure hT rfl) ?_
              refine gl_op rfl rfl rfl (op_pure hT rfl) ?_
              refine gl_nil ?_
              refine hK20 _ _ ?_
              clear hK20; try clear K20
              refine gc_ret ?_
              try simp only [x_then_ret, x_block_ret]
              refine gk_ret3 rfl rfl rfl rfl ?_
              have e1 : readTextV l at_ most = (⟨#[]⟩, 0, 14) := by unfold readTextV; rw [if_neg (by omega)]; simp only; rw [if_neg hne, if_neg (by omega), if_neg (by omega), if_pos (by simpa [textB] using c54)]
              rw [e1]
              exact ⟨rfl, hS.below⟩
            · try simp only [decide_eq_true_eq, decide_eq_false_iff_not, Bool.not_eq_true', Bool.not_eq_false', Int.not_lt, Int.not_le, Nat.not_lt, Nat.not_le, Bool.true_eq, Bool.false_eq, reduceCtorEq] at c54
              refine gc_skip ?_
              refine hK18 _ _ ?_
              clear hK18; try clear K18
              refine gc_seq fun K21 hK21 => ?_
              refine gc_region ?_
              refine gl_op rfl rfl rfl (op_pure hT rfl) ?_
              refine gl_op rfl rfl rfl (op_pure hT rfl) ?_
              refine gl_op rfl rfl rfl (op_pure hT rfl) ?_
              first | refine gl_fit hT rfl rfl rfl rfl (by omega) ?_ | refine gl_op rfl rfl rfl (op_pure hT rfl) ?_
              refine gl_op rfl rfl rfl (op_pure hT rfl) ?_
              refine gl_op rfl rfl rfl (op_pure hT rfl) ?_
              refine gl_op rfl rfl rfl (op_pure hT rfl) ?_
              refine gl_nil ?_
              refine hK21 _ _ ?_
              clear hK21; try clear K21
              refine gc_ret ?_
              try simp only [x_then_ret, x_block_ret]
              refine gk_ret3 rfl rfl rfl rfl ?_
              have e1 : readTextV l at_ most = (textB l (readUV l at_).2.1.toNat (readUV l at_).1.toNat, (readUV l at_).2.1 + (readUV l at_).1, 0) := by unfold readTextV; rw [if_neg (by omega)]; simp only; rw [if_neg hne, if_neg (by omega), if_neg (by omega), if_neg (by simpa [textB] using c54)]
              rw [e1]
              exact ⟨rfl, hS.below⟩
theorem WireTexts_calls (s : ByteArray) (A : Option Addr) (c : Nat) (l : List UInt8) (at_ most : Int) (w : World) (hU : Tabs w) {ok : Nat → Prop} (h1 : RdE w ok uB A l) (hs : s.size ≤ 4611686018427387904) (hc : l.length ≤ c) (hb : l.length ≤ 140737488355328) :
    Calls Tryd.prog 6 ⟨[.string s, .slice A l.length c, .int .i64 at_, .int .i64 most]⟩ w fun e w' => e = .returned (.bool true) ∧ Below w.heap.size w w' := by
  have hlen : (l.take 1048676).length ≤ 1048676 := by simp; omega
  refine gc_enter (N := 109) Tryd.func6 rfl rfl rfl [(0, _), (1, _), (2, _), (3, _)] rfl ?_
  have hS := St.start w
  refine gc_seq fun K1 hK1 => ?_
  refine gc_region ?_
  refine gl_op rfl rfl rfl (op_pure hT rfl) ?_
  refine gl_nil ?_
  refine hK1 _ _ ?_
  clear hK1; try clear K1
  refine gc_seq fun K2 hK2 => ?_
  refine gc_seq fun K3 hK3 => ?_
  refine gc_region ?_
  refine gl_callf rfl rfl rfl rfl Tryd.func15 rfl rfl rfl (told_calls _ hU) ?_
  rintro _ w25 ⟨rfl, hb25⟩
  refine ⟨_, rfl, ?_⟩
  have hS := hS.grown hb25
  refine gl_op rfl rfl rfl (op_pure hT rfl) ?_
  refine gl_nil ?_
  refine hK3 _ _ ?_
  clear hK3; try clear K3
  refine gc_cond_f rfl ?_
  refine gc_skip ?_
  refine hK2 _ _ ?_
  clear hK2; try clear K2
  refine gc_cut (fun a w' => ∃ s : ByteArray, Fr 109 a [(0, .string s), (1, .slice A l.length c), (2, .int .i64 at_), (3, .int .i64 most)] ∧ s.size ≤ 1048576 ∧ St w.heap.size w w' []) ?_ ?_
  · skip
    refine gc_seq fun K4 hK4 => ?_
    refine gc_region ?_
    refine gl_op rfl rfl rfl (op_pure hT rfl) ?_
    refine gl_op rfl rfl rfl (op_pure hT rfl) ?_
    refine gl_op rfl rfl rfl (op_pure hT rfl) ?_
    refine gl_nil ?_
    refine hK4 _ _ ?_
    clear hK4; try clear K4
    refine gc_cond rfl rfl (fun c29 => ?_) (fun c29 => ?_)
    · try simp only [decide_eq_true_eq, decide_eq_false_iff_not, Bool.not_eq_true', Bool.not_eq_false', Int.not_lt, Int.not_le, Nat.not_lt, Nat.not_le, Bool.true_eq, Bool.false_eq, reduceCtorEq] at c29
      refine gc_region ?_
      refine gl_op rfl rfl rfl (op_pure hT rfl) ?_
      refine gl_op rfl rfl rfl (op_str_h hT rfl rfl rfl rfl (by first | omega | (simp; omega)) (by first | omega | (simp; omega))) ?_
      refine gl_op rfl rfl rfl (op_pure hT rfl) ?_
      refine gl_nil ?_
      intro a ha
      first
        | exact ⟨_, ha.sub ⟨rfl, rfl, rfl, rfl, trivial⟩, by simp; omega, hS⟩
        | exact ⟨_, ha.sub ⟨rfl, rfl, rfl, rfl, trivial⟩, by omega, hS⟩
    · try simp only [decide_eq_true_eq, decide_eq_false_iff_not, Bool.not_eq_true', Bool.not_eq_false', Int.not_lt, Int.not_le, Nat.not_lt, Nat.not_le, Bool.true_eq, Bool.false_eq, reduceCtorEq] at c29
      refine gc_skip ?_
      intro a ha
      first
        | exact ⟨_, ha.sub ⟨rfl, rfl, rfl, rfl, trivial⟩, by simp; omega, hS⟩
        | exact ⟨_, ha.sub ⟨rfl, rfl, rfl, rfl, trivial⟩, by omega, hS⟩
  clear hs
  rintro a w1 ⟨s, hF, hs, hS⟩
  refine gc_of hF ?_
  refine gc_seq fun K5 hK5 => ?_
  refine gc_region ?_
  refine gl_op rfl rfl rfl (op_pure hT rfl) ?_
  refine gl_callf rfl rfl rfl rfl Tryd.func25 rfl rfl rfl (Runes_calls s (by omega) _ (hU.old hS)) ?_
  rintro _ w34 ⟨rfl, hb34⟩
  refine ⟨_, rfl, ?_⟩
  have hS := hS.grown hb34
  refine gl_op rfl rfl rfl (op_pure hT rfl) ?_
  refine gl_op rfl rfl rfl (op_pure hT rfl) ?_
  refine gl_op rfl rfl rfl (op_pure hT rfl) ?_
  refine gl_op rfl rfl rfl (op_pure hT rfl) ?_
  refine gl_op rfl rfl rfl (op_pure hT rfl) ?_
  refine gl_nil ?_
  refine hK5 _ _ ?_
  clear hK5; try clear K5
  refine gc_seq fun K6 hK6 => ?_
  refine gc_region ?_
  refine gl_op rfl rfl rfl (op_pure hT rfl) ?_
  refine gl_callf rfl rfl rfl rfl Tryd.func28 rfl rfl rfl (rRunes_calls s (by omega) _) ?_
  rintro _ w39 ⟨rfl, hb39⟩
  refine ⟨_, rfl, ?_⟩
  have hS := hS.grown hb39
  refine gl_op rfl rfl rfl (op_pure hT rfl) ?_
  refine gl_op rfl rfl rfl (op_pure hT rfl) ?_
  refine gl_op rfl rfl rfl (op_pure hT rfl) ?_
  refine gl_op rfl rfl rfl (op_pure hT rfl) ?_
  refine gl_op rfl rfl rfl (op_pure hT rfl) ?_
  refine gl_nil ?_
  refine hK6 _ _ ?_
  clear hK6; try clear K6
  refine gc_seq fun K7 hK7 => ?_
  refine gc_region ?_
  refine gl_op rfl rfl rfl (op_pure hT rfl) ?_
  refine gl_callf rfl rfl rfl rfl Tryd.func29 rfl rfl rfl (Text_calls s (by omega) _ (hU.old hS)) ?_
  rintro _ w44 ⟨A44, c44, rfl, hr44, hb44⟩
  refine ⟨_, rfl, ?_⟩
  have hS := hS.addRow hb44 hr44
  refine gl_op rfl rfl rfl (op_pure hT rfl) ?_
  refine gl_op rfl rfl rfl (op_pure hT rfl) ?_
  refine gl_op rfl rfl rfl (op_pure hT rfl) ?_
  refine gl_op rfl rfl rfl (op_pure hT rfl) ?_
  refine gl_op rfl rfl rfl (op_pure hT rfl) ?_
  refine gl_nil ?_
  refine hK7 _ _ ?_
  clear hK7; try clear K7
  refine gc_seq fun K8 hK8 => ?_
  refine gc_region ?_
  refine gl_op rfl rfl rfl (op_pure hT rfl) ?_
  refine gl_callf rfl rfl rfl rfl Tryd.func30 rfl rfl rfl (rText_calls s (by omega) _) ?_
  rintro _ w49 ⟨A49, c49, rfl, hr49, hb49⟩
  refine ⟨_, rfl, ?_⟩
  have hS := hS.addRow hb49 hr49
  refine gl_op rfl rfl rfl (op_pure hT rfl) ?_
  refine gl_op rfl rfl rfl (op_pure hT rfl) ?_
  refine gl_op rfl rfl rfl (op_pure hT rfl) ?_
  refine gl_op rfl rfl rfl (op_pure hT rfl) ?_
  refine gl_op rfl rfl rfl (op_pure hT rfl) ?_
  refine gl_nil ?_
  refine hK8 _ _ ?_
  clear hK8; try clear K8
  refine gc_seq fun K9 hK9 => ?_
  refine gc_seq fun K10 hK10 => ?_
  refine gc_region ?_
  refine gl_op rfl rfl rfl (op_pure hT rfl) ?_
  refine gl_op rfl rfl rfl (op_pure hT rfl) ?_
  refine gl_op rfl rfl rfl (op_pure hT rfl) ?_
  refine gl_spell 54 (v := .bool false) rfl (by simp) ?_
  refine gl_op rfl rfl rfl (op_pure hT rfl) ?_
  refine gl_un rfl rfl rfl rfl ?_
  refine gl_op rfl rfl rfl (op_pure hT rfl) ?_
  refine gl_un rfl rfl rfl rfl ?_
  refine gl_op rfl rfl rfl (op_pure hT rfl) ?_
  refine gl_un rfl rfl rfl rfl ?_
  refine gl_op rfl rfl rfl (op_pure hT rfl) ?_
  refine gl_spell 58 (v := .bool false) rfl (by simp) ?_
  refine gl_op rfl rfl rfl (op_pure hT rfl) ?_
  refine gl_op rfl rfl rfl (op_pure hT rfl) ?_
  refine gl_un rfl rfl rfl rfl ?_
  refine gl_op rfl rfl rfl (op_pure hT rfl) ?_
  refine gl_un rfl rfl rfl rfl ?_
  refine gl_op rfl rfl rfl (op_pure hT rfl) ?_
  refine gl_un rfl rfl rfl rfl ?_
  refine gl_op rfl rfl rfl (op_pure hT rfl) ?_
  refine gl_spell 63 (v := .bool false) rfl (by simp) ?_
  refine gl_op rfl rfl rfl (op_pure hT rfl) ?_
  refine gl_op rfl rfl rfl (op_pure hT rfl) ?_
  refine gl_un rfl rfl rfl rfl ?_
  refine gl_op rfl rfl rfl (op_pure hT rfl) ?_
  refine gl_un rfl rfl rfl rfl ?_
  refine gl_op rfl rfl rfl (op_pure hT rfl) ?_
  refine gl_un rfl rfl rfl rfl ?_
  refine gl_callf rfl rfl rfl rfl Tryd.func18 rfl rfl rfl (Same_calls _ _ _ _ (textV s).1 (textV s).1 _ (hS.rdE (i := 0) rfl) (hS.rdE (i := 1) rfl) (by have := (hS.cap (i := 0) rfl); omega)) ?_
  rintro _ _ ⟨rfl, n68, rfl⟩
  refine ⟨_, rfl, ?_⟩
  have hS := hS.dr n68
  refine gl_spell 68 (v := .bool true) rfl (by simp) ?_
  refine gl_un rfl rfl rfl rfl ?_
  refine gl_op rfl rfl rfl (op_pure hT rfl) ?_
  refine gl_op rfl rfl rfl (op_pure hT rfl) ?_
  refine gl_nil ?_
  refine hK10 _ _ ?_
  clear hK10; try clear K10
  refine gc_cond_f rfl ?_
  refine gc_skip ?_
  refine hK9 _ _ ?_
  clear hK9; try clear K9
  refine gc_seq fun K11 hK11 => ?_
  refine gc_region ?_
  refine gl_op rfl rfl rfl (op_pure hT rfl) ?_
  refine gl_callf rfl rfl rfl rfl Tryd.func19 rfl rfl rfl (Laid_calls A c l _ (h1.old hS) hc) ?_
  rintro _ w72 ⟨A72, c72, rfl, hr72, hb72⟩
  refine ⟨_, rfl, ?_⟩
  have hS := hS.addRow hb72 hr72
  refine gl_op rfl rfl rfl (op_pure hT rfl) ?_
  refine gl_callf rfl rfl rfl rfl Tryd.func19 rfl rfl rfl (Laid_calls A c l _ (h1.old hS) hc) ?_
  rintro _ w74 ⟨A74, c74, rfl, hr74, hb74⟩
  refine ⟨_, rfl, ?_⟩
  have hS := hS.addRow hb74 hr74
  refine gl_op rfl rfl rfl (op_pure hT rfl) ?_
  refine gl_op rfl rfl rfl (op_pure hT rfl) ?_
  refine gl_nil ?_
  refine hK11 _ _ ?_
  clear hK11; try clear K11
  refine gc_seq fun K12 hK12 => ?_
  refine gc_region ?_
  refine gl_op rfl rfl rfl (op_pure hT rfl) ?_
  refine gl_op rfl rfl rfl (op_pure hT rfl) ?_
  refine gl_op rfl rfl rfl (op_pure hT rfl) ?_
  have hcap := (hS.cap (i := 2) rfl).1
  have hcap3 := (hS.cap (i := 3) rfl).1
  refine gl_callf rfl rfl rfl rfl Tryd.func31 rfl rfl rfl (ReadText_calls A72 c72 (l.take 1048676) at_ most _ (laid_rd 2 hS rfl) (by omega) (by omega) (hU.old hS)) ?_
  rintro _ w79 ⟨rfl, hb79⟩
  refine ⟨_, rfl, ?_⟩
  have hS := hS.grown hb79
  refine gl_op rfl rfl rfl (op_pure hT rfl) ?_
  refine gl_op rfl rfl rfl (op_pure hT rfl) ?_
  refine gl_op rfl rfl rfl (op_pure hT rfl) ?_
  refine gl_op rfl rfl rfl (op_pure hT rfl) ?_
  refine gl_op rfl rfl rfl (op_pure hT rfl) ?_
  refine gl_op rfl rfl rfl (op_pure hT rfl) ?_
  refine gl_op rfl rfl rfl (op_pure hT rfl) ?_
  refine gl_nil ?_
  refine hK12 _ _ ?_
  clear hK12; try clear K12
  refine gc_seq fun K13 hK13 => ?_
  refine gc_region ?_
  refine gl_op rfl rfl rfl (op_pure hT rfl) ?_
  refine gl_op rfl rfl rfl (op_pure hT rfl) ?_
  refine gl_op rfl rfl rfl (op_pure hT rfl) ?_
  refine gl_callf rfl rfl rfl rfl Tryd.func32 rfl rfl rfl (rReadText_calls A74 c74 (l.take 1048676) at_ most _ (laid_rd 3 hS rfl) (by omega) (by omega)) ?_
  rintro _ w87 ⟨rfl, hb87⟩
  refine ⟨_, rfl, ?_⟩
  have hS := hS.grown hb87
  refine gl_op rfl rfl rfl (op_pure hT rfl) ?_
  refine gl_op rfl rfl rfl (op_pure hT rfl) ?_
  refine gl_op rfl rfl rfl (op_pure hT rfl) ?_
  refine gl_op rfl rfl rfl (op_pure hT rfl) ?_
  refine gl_op rfl rfl rfl (op_pure hT rfl) ?_
  refine gl_op rfl rfl rfl (op_pure hT rfl) ?_
  refine gl_op rfl rfl rfl (op_pure hT rfl) ?_
  refine gl_nil ?_
  refine hK13 _ _ ?_
  clear hK13; try clear K13
  refine gc_seq fun K14 hK14 => ?_
  refine gc_region ?_
  refine gl_op rfl rfl rfl (op_pure hT rfl) ?_
  refine gl_op rfl rfl rfl (op_pure hT rfl) ?_
  refine gl_op rfl rfl rfl (op_pure hT rfl) ?_
  refine gl_spell 93 (v := .bool true) rfl (by simp) ?_
  refine gl_op rfl rfl rfl (op_pure hT rfl) ?_
  refine gl_un rfl rfl rfl rfl ?_
  refine gl_op rfl rfl rfl (op_pure hT rfl) ?_
  refine gl_un rfl rfl rfl rfl ?_
  refine gl_op rfl rfl rfl (op_pure hT rfl) ?_
  refine gl_un rfl rfl rfl rfl ?_
  refine gl_op rfl rfl rfl (op_pure hT rfl) ?_
  refine gl_spell 97 (v := .bool true) rfl (by simp) ?_
  refine gl_op rfl rfl rfl (op_pure hT rfl) ?_
  refine gl_op rfl rfl rfl (op_pure hT rfl) ?_
  refine gl_un rfl rfl rfl rfl ?_
  refine gl_op rfl rfl rfl (op_pure hT rfl) ?_
  refine gl_un rfl rfl rfl rfl ?_
  refine gl_op rfl rfl rfl (op_pure hT rfl) ?_
  refine gl_un rfl rfl rfl rfl ?_
  refine gl_op rfl rfl rfl (op_pure hT rfl) ?_
  refine gl_spell 102 (v := .bool true) rfl (by simp) ?_
  refine gl_op rfl rfl rfl (op_pure hT rfl) ?_
  refine gl_op rfl rfl rfl (op_pure hT rfl) ?_
  refine gl_un rfl rfl rfl rfl ?_
  refine gl_op rfl rfl rfl (op_pure hT rfl) ?_
  refine gl_un rfl rfl rfl rfl ?_
  refine gl_op rfl rfl rfl (op_pure hT rfl) ?_
  refine gl_un rfl rfl rfl rfl ?_
  refine gl_callf rfl rfl rfl rfl Tryd.func22 rfl rfl rfl (Intact_calls A72 A74 c72 c74 (l.take 1048676) [201, 202, 203] (l.take 1048676) _ (laid_rd3 2 hS rfl) rfl (by omega) (by omega) (laid_rd 3 hS rfl)) ?_
  rintro _ w107 ⟨rfl, hb107⟩
  refine ⟨_, rfl, ?_⟩
  have hS := hS.grown hb107
  refine gl_spell 107 (v := .bool true) rfl (by simp) ?_
  refine gl_op rfl rfl rfl (op_pure hT rfl) ?_
  refine gl_op rfl rfl rfl (op_pure hT rfl) ?_
  refine gl_nil ?_
  refine hK14 _ _ ?_
  clear hK14; try clear K14
  refine gc_ret ?_
  try simp only [x_then_ret, x_block_ret]
  refine gk_ret1 rfl rfl ?_
  exact ⟨rfl, hS.below⟩
end Go.Proofs.YtpeomdobcobdiaaDoor
