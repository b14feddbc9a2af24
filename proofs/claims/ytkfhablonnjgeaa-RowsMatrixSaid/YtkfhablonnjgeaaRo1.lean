/- Contracts of package rows, first part. No condition. -/
import Derived.Test.YtkfhablonnjgeaaMd2
import Derived.Test.YtkfhablonnjgeaaRoS
namespace Go.Proofs.Ytkfhablonnjgeaa
open Go.RowKit
set_option linter.unusedVariables false
set_option linter.unusedSimpArgs false
theorem owns_nl {w : World} {B : Nat} {el : TypeId} {sz : Nat} : Owns w B none 0 el sz 0 [] := ⟨by simp, .inl ⟨rfl, rfl, rfl⟩⟩
theorem one_fV (l : List Nat) : allOne (l.map fV) = true := allOne_map (fun _ => rfl) l
theorem one_nV (l : List Int) : allOne (l.map nV) = true := allOne_map (fun _ => rfl) l
theorem mFloat_calls (b : Nat) (w : World) : Calls Try.prog 44 ⟨[.int .u64 b]⟩ w fun e w' => e = .returned (.float .f64 b) ∧ Eqv w w' := by
  refine gc_enter (N := 5) Try.func44 rfl rfl rfl [(0, _)] rfl ?_
  refine gc_seq fun K1 hK1 => ?_
  refine gc_region ?_
  refine gl_op rfl rfl rfl (op_pure hT rfl) ?_
  refine gl_nil ?_
  refine hK1 _ _ ?_
  clear hK1; try clear K1
  refine gc_seq fun K2 hK2 => ?_
  refine gc_region ?_
  refine gl_op rfl rfl rfl (op_pure hT rfl) ?_
  refine gl_op rfl rfl rfl (op_extern (ext := Extern.MathFloatBits.float64frombits) rfl Try.func49 (by kernel_rfl) (by kernel_rfl) (by kernel_rfl) (by kernel_rfl) rfl (fun _ => rfl)) ?_
  refine gl_op rfl rfl rfl (op_pure hT rfl) ?_
  refine gl_nil ?_
  refine hK2 _ _ ?_
  clear hK2; try clear K2
  refine gc_ret ?_
  try simp only [x_then_ret, x_block_ret]
  refine gk_ret1 rfl rfl ?_
  exact ⟨rfl, Eqv.refl _⟩
theorem linear_calls (k : Int) (w : World) : Calls Try.prog 8 ⟨[.int .i64 k]⟩ w fun e w' => e = .returned (.bool (decide (1 ≤ k ∧ k ≤ 6))) ∧ Eqv w w' := by
  refine gc_enter (N := 9) Try.func8 rfl rfl rfl [(0, _)] rfl ?_
  refine gc_seq fun K1 hK1 => ?_
  refine gc_region ?_
  refine gl_op rfl rfl rfl (op_pure hT rfl) ?_
  refine gl_nil ?_
  refine hK1 _ _ ?_
  clear hK1; try clear K1
  refine gc_seq fun K2 hK2 => ?_
  refine gc_region ?_
  refine gl_op rfl rfl rfl (op_pure hT rfl) ?_
  refine gl_op rfl rfl rfl (op_pure hT rfl) ?_
  refine gl_op rfl rfl rfl (op_pure hT rfl) ?_
  refine gl_split (t := 5) rfl (fun c5 => ?_) (fun c5 => ?_)
  · try simp only [decide_eq_true_eq, decide_eq_false_iff_not, Bool.not_eq_true', Bool.not_eq_false', Int.not_lt, Int.not_le, Nat.not_lt, Nat.not_le, Bool.true_eq, Bool.false_eq, reduceCtorEq] at c5
    refine gl_un rfl rfl rfl rfl ?_
    refine gl_op rfl rfl rfl (op_pure hT rfl) ?_
    refine gl_un rfl rfl rfl rfl ?_
    refine gl_op rfl rfl rfl (op_pure hT rfl) ?_
    refine gl_op rfl rfl rfl (op_pure hT rfl) ?_
    refine gl_op rfl rfl rfl (op_pure hT rfl) ?_
    refine gl_nil ?_
    refine hK2 _ _ ?_
    clear hK2; try clear K2
    refine gc_ret ?_
    try simp only [x_then_ret, x_block_ret]
    refine gk_ret1 rfl rfl ?_
    first
      | exact ⟨by rw [decide_eq_false (show ¬ (1 ≤ k ∧ k ≤ 6) by omega)], Eqv.refl _⟩
      | exact ⟨congrArg (fun b => Ending.returned (Value.bool b)) (decide_eq_decide.2 (by omega)), Eqv.refl _⟩
  · try simp only [decide_eq_true_eq, decide_eq_false_iff_not, Bool.not_eq_true', Bool.not_eq_false', Int.not_lt, Int.not_le, Nat.not_lt, Nat.not_le, Bool.true_eq, Bool.false_eq, reduceCtorEq] at c5
    refine gl_pass rfl rfl rfl rfl rfl rfl ?_
    refine gl_pass rfl rfl rfl rfl rfl rfl ?_
    refine gl_op rfl rfl rfl (op_pure hT rfl) ?_
    refine gl_op rfl rfl rfl (op_pure hT rfl) ?_
    refine gl_nil ?_
    refine hK2 _ _ ?_
    clear hK2; try clear K2
    refine gc_ret ?_
    try simp only [x_then_ret, x_block_ret]
    refine gk_ret1 rfl rfl ?_
    first
      | exact ⟨by rw [decide_eq_false (show ¬ (1 ≤ k ∧ k ≤ 6) by omega)], Eqv.refl _⟩
      | exact ⟨congrArg (fun b => Ending.returned (Value.bool b)) (decide_eq_decide.2 (by omega)), Eqv.refl _⟩
theorem bent_calls (k : Int) (w : World) : Calls Try.prog 9 ⟨[.int .i64 k]⟩ w fun e w' => e = .returned (.bool (decide (7 ≤ k ∧ k ≤ 12))) ∧ Eqv w w' := by
  refine gc_enter (N := 9) Try.func9 rfl rfl rfl [(0, _)] rfl ?_
  refine gc_seq fun K1 hK1 => ?_
  refine gc_region ?_
  refine gl_op rfl rfl rfl (op_pure hT rfl) ?_
  refine gl_nil ?_
  refine hK1 _ _ ?_
  clear hK1; try clear K1
  refine gc_seq fun K2 hK2 => ?_
  refine gc_region ?_
  refine gl_op rfl rfl rfl (op_pure hT rfl) ?_
  refine gl_op rfl rfl rfl (op_pure hT rfl) ?_
  refine gl_op rfl rfl rfl (op_pure hT rfl) ?_
  refine gl_split (t := 5) rfl (fun c5 => ?_) (fun c5 => ?_)
  · try simp only [decide_eq_true_eq, decide_eq_false_iff_not, Bool.not_eq_true', Bool.not_eq_false', Int.not_lt, Int.not_le, Nat.not_lt, Nat.not_le, Bool.true_eq, Bool.false_eq, reduceCtorEq] at c5
    refine gl_un rfl rfl rfl rfl ?_
    refine gl_op rfl rfl rfl (op_pure hT rfl) ?_
    refine gl_un rfl rfl rfl rfl ?_
    refine gl_op rfl rfl rfl (op_pure hT rfl) ?_
    refine gl_op rfl rfl rfl (op_pure hT rfl) ?_
    refine gl_op rfl rfl rfl (op_pure hT rfl) ?_
    refine gl_nil ?_
    refine hK2 _ _ ?_
    clear hK2; try clear K2
    refine gc_ret ?_
    try simp only [x_then_ret, x_block_ret]
    refine gk_ret1 rfl rfl ?_
    first
      | exact ⟨by rw [decide_eq_false (show ¬ (7 ≤ k ∧ k ≤ 12) by omega)], Eqv.refl _⟩
      | exact ⟨congrArg (fun b => Ending.returned (Value.bool b)) (decide_eq_decide.2 (by omega)), Eqv.refl _⟩
  · try simp only [decide_eq_true_eq, decide_eq_false_iff_not, Bool.not_eq_true', Bool.not_eq_false', Int.not_lt, Int.not_le, Nat.not_lt, Nat.not_le, Bool.true_eq, Bool.false_eq, reduceCtorEq] at c5
    refine gl_pass rfl rfl rfl rfl rfl rfl ?_
    refine gl_pass rfl rfl rfl rfl rfl rfl ?_
    refine gl_op rfl rfl rfl (op_pure hT rfl) ?_
    refine gl_op rfl rfl rfl (op_pure hT rfl) ?_
    refine gl_nil ?_
    refine hK2 _ _ ?_
    clear hK2; try clear K2
    refine gc_ret ?_
    try simp only [x_then_ret, x_block_ret]
    refine gk_ret1 rfl rfl ?_
    first
      | exact ⟨by rw [decide_eq_false (show ¬ (7 ≤ k ∧ k ≤ 12) by omega)], Eqv.refl _⟩
      | exact ⟨congrArg (fun b => Ending.returned (Value.bool b)) (decide_eq_decide.2 (by omega)), Eqv.refl _⟩
theorem clipI_calls (A : Option Addr) (c n : Nat) (h : n ≤ c) (w : World) :
    Calls Try.prog 32 ⟨[.slice A n c]⟩ w fun e w' => e = .returned (.slice A n n) ∧ Eqv w w' := by
  refine gc_enter (N := 9) Try.func32 rfl rfl rfl [(0, _)] rfl ?_
  refine gc_seq fun K1 hK1 => ?_
  refine gc_region ?_
  refine gl_op rfl rfl rfl (op_pure hT rfl) ?_
  refine gl_nil ?_
  refine hK1 _ _ ?_
  clear hK1; try clear K1
  refine gc_seq fun K2 hK2 => ?_
  refine gc_region ?_
  refine gl_op rfl rfl rfl (op_pure hT rfl) ?_
  refine gl_op rfl rfl rfl (op_pure hT rfl) ?_
  refine gl_op rfl rfl rfl (op_pure hT rfl) ?_
  refine gl_op rfl rfl rfl (op_pure hT rfl) ?_
  refine gl_op rfl rfl rfl (op_pure hT rfl) ?_
  refine gl_op rfl rfl rfl (op_slice_hm hT el3 rfl rfl rfl rfl rfl (by first | omega | (simp; omega)) (by first | omega | (simp; omega)) (by first | omega | (simp; omega))) ?_
  refine gl_op rfl rfl rfl (op_pure hT rfl) ?_
  refine gl_nil ?_
  refine hK2 _ _ ?_
  clear hK2; try clear K2
  refine gc_ret ?_
  try simp only [x_then_ret, x_block_ret]
  refine gk_ret1 rfl rfl ?_
  exact ⟨rfl, Eqv.refl _⟩
theorem clipF_calls (A : Option Addr) (c n : Nat) (h : n ≤ c) (w : World) :
    Calls Try.prog 33 ⟨[.slice A n c]⟩ w fun e w' => e = .returned (.slice A n n) ∧ Eqv w w' := by
  refine gc_enter (N := 9) Try.func33 rfl rfl rfl [(0, _)] rfl ?_
  refine gc_seq fun K1 hK1 => ?_
  refine gc_region ?_
  refine gl_op rfl rfl rfl (op_pure hT rfl) ?_
  refine gl_nil ?_
  refine hK1 _ _ ?_
  clear hK1; try clear K1
  refine gc_seq fun K2 hK2 => ?_
  refine gc_region ?_
  refine gl_op rfl rfl rfl (op_pure hT rfl) ?_
  refine gl_op rfl rfl rfl (op_pure hT rfl) ?_
  refine gl_op rfl rfl rfl (op_pure hT rfl) ?_
  refine gl_op rfl rfl rfl (op_pure hT rfl) ?_
  refine gl_op rfl rfl rfl (op_pure hT rfl) ?_
  refine gl_op rfl rfl rfl (op_slice_hm hT el28 rfl rfl rfl rfl rfl (by first | omega | (simp; omega)) (by first | omega | (simp; omega)) (by first | omega | (simp; omega))) ?_
  refine gl_op rfl rfl rfl (op_pure hT rfl) ?_
  refine gl_nil ?_
  refine hK2 _ _ ?_
  clear hK2; try clear K2
  refine gc_ret ?_
  try simp only [x_then_ret, x_block_ret]
  refine gk_ret1 rfl rfl ?_
  exact ⟨rfl, Eqv.refl _⟩
theorem cloneF_calls (A : Option Addr) (n c : Nat) (l : List Nat) (w : World) {ok : Nat → Prop} (h1 : Rd w ok A n 1 (l.map fV)) (hb : n ≤ 8796093022208) :
    Calls Try.prog 28 ⟨[.slice A n c]⟩ w fun e w' => ∃ A' c', e = .returned (.slice A' n c') ∧ Owns w' w.heap.size A' c' 28 1 n (l.map fV) ∧ Below w.heap.size w w' := by
  refine gc_enter (N := 8) Try.func28 rfl rfl rfl [(0, _)] rfl ?_
  have hS := St.start w
  refine gc_seq fun K1 hK1 => ?_
  refine gc_region ?_
  refine gl_op rfl rfl rfl (op_pure hT rfl) ?_
  refine gl_nil ?_
  refine hK1 _ _ ?_
  clear hK1; try clear K1
  refine gc_seq fun K2 hK2 => ?_
  refine gc_seq fun K3 hK3 => ?_
  refine gc_region ?_
  refine gl_op rfl rfl rfl (op_pure hT rfl) ?_
  refine gl_op rfl rfl rfl (op_eqnil hT rfl rfl rfl) ?_
  refine gl_nil ?_
  refine hK3 _ _ ?_
  clear hK3; try clear K3
  refine gc_cond rfl rfl (fun c4 => ?_) (fun c4 => ?_)
  · try simp only [decide_eq_true_eq, decide_eq_false_iff_not, Bool.not_eq_true', Bool.not_eq_false', Int.not_lt, Int.not_le, Nat.not_lt, Nat.not_le, Bool.true_eq, Bool.false_eq, reduceCtorEq] at c4
    refine gc_seq fun K4 hK4 => ?_
    refine gc_region ?_
    refine gl_op rfl rfl rfl (op_pure hT rfl) ?_
    refine gl_nil ?_
    refine hK4 _ _ ?_
    clear hK4; try clear K4
    refine gc_ret ?_
    try simp only [x_then_ret, x_block_ret]
    refine gk_ret1 rfl rfl ?_
    have hn : n = 0 := by
      rcases Nat.eq_zero_or_pos n with h | h
      · exact h
      · obtain ⟨ad, hA, _⟩ := h1.2 h; rw [hA] at c4; cases c4
    subst hn
    have hl : l.map fV = [] := List.eq_nil_of_length_eq_zero (by simpa using h1.1)
    rw [hl]
    exact ⟨none, 0, rfl, owns_nl, hS.below⟩
  · try simp only [decide_eq_true_eq, decide_eq_false_iff_not, Bool.not_eq_true', Bool.not_eq_false', Int.not_lt, Int.not_le, Nat.not_lt, Nat.not_le, Bool.true_eq, Bool.false_eq, reduceCtorEq] at c4
    refine gc_skip ?_
    refine hK2 _ _ ?_
    clear hK2; try clear K2
    refine gc_seq fun K5 hK5 => ?_
    refine gc_region ?_
    refine gl_lit hT hS el28 rfl rfl rfl rfl rfl rfl rfl rfl rfl fun g5 w5 hS => ?_
    refine gl_op rfl rfl rfl (op_pure hT rfl) ?_
    refine gl_append 0 hT hS el28 (h1.old (by decide) hS) (one_fV l) rfl rfl rfl rfl rfl rfl rfl rfl (by omega) (by omega) fun A7 c7 w7 hS => ?_
    refine gl_op rfl rfl rfl (op_pure hT rfl) ?_
    refine gl_nil ?_
    refine hK5 _ _ ?_
    clear hK5; try clear K5
    refine gc_ret ?_
    try simp only [x_then_ret, x_block_ret]
    refine gk_ret1 rfl rfl ?_
    obtain ⟨h2, h3⟩ := hS.out (i := 0) rfl
    simp only [Nat.zero_add, List.nil_append] at h2
    exact ⟨A7, c7, by simp, h2, h3⟩
theorem made_ints (n : Nat) : (madeCells #[(.int .i64 0 : Value)] (n * 1)).toList = List.replicate n (.int .i64 0) := by
  rw [Nat.mul_one]
  apply List.ext_getElem
  · simp [madeCells]
  · intro j h1 h2; simp [madeCells, Nat.mod_one]
def allB (n i : Nat) : List Value := (rangeI i).map nV ++ List.replicate (n - i) (.int .i64 0)
theorem all_set (n i : Nat) (h : i < n) : (allB n i).set i (nV i) = allB n (i + 1) := by
  unfold allB
  rw [rangeI_succ, show n - i = (n - (i + 1)) + 1 by omega, List.replicate_succ]
  have hl : ((rangeI i).map nV).length = i := by rw [List.length_map, rangeI_len]
  rw [List.set_append_right _ _ (by omega)]
  simp [hl]
theorem all_calls (n : Nat) (hn : n ≤ 1048576) (w : World) : Calls Try.prog 27 ⟨[.int .i64 (n : Nat)]⟩ w fun e w' => ∃ A c, e = .returned (.slice A n c) ∧ Owns w' w.heap.size A c 3 1 n ((rangeI n).map nV) ∧ Below w.heap.size w w' := by
  refine gc_enter (N := 18) Try.func27 rfl rfl rfl [(0, _)] rfl ?_
  have hS := St.start w
  refine gc_seq fun K1 hK1 => ?_
  refine gc_region ?_
  refine gl_op rfl rfl rfl (op_pure hT rfl) ?_
  refine gl_nil ?_
  refine hK1 _ _ ?_
  clear hK1; try clear K1
  refine gc_seq fun K2 hK2 => ?_
  refine gc_region ?_
  refine gl_op rfl rfl rfl (op_pure hT rfl) ?_
  refine gl_make (n := n) hT hS el3 rfl rfl rfl rfl rfl rfl rfl (by omega) (by omega) fun g6 w6 hS => ?_
  refine gl_op rfl rfl rfl (op_pure hT rfl) ?_
  refine gl_nil ?_
  refine hK2 _ _ ?_
  clear hK2; try clear K2
  refine gc_seq fun K3 hK3 => ?_
  refine gc_seq fun K4 hK4 => ?_
  refine gc_region ?_
  refine gl_op rfl rfl rfl (op_pure hT rfl) ?_
  refine gl_op rfl rfl rfl (op_pure hT rfl) ?_
  refine gl_op rfl rfl rfl (op_pure hT rfl) ?_
  refine gl_nil ?_
  refine hK4 _ _ ?_
  clear hK4; try clear K4
  refine gc_block ?_
  have hS : St w.heap.size w _ [.row (some ⟨g6, 0, none⟩) n 3 1 n (madeCells #[(.int .i64 0 : Value)] (n * 1)).toList] := hS
  rw [made_ints] at hS
  refine gc_loop (fun k a w' => ∃ i : Nat, Fr 18 a [(3, .slice (some ⟨g6, 0, none⟩) n n), (8, .int .i64 (n : Nat)), (9, .int .i64 (i : Nat))] ∧ i ≤ n ∧ k = n + 1 - i ∧ St w.heap.size w w' [.row (some ⟨g6, 0, none⟩) n 3 1 n (allB n i)]) (n + 1) ?_ ?_ ?_
  · intro a ha; exact ⟨0, ha.sub ⟨rfl, rfl, rfl, trivial⟩, by omega, by omega, by unfold allB rangeI; exact hS⟩
  · rintro a w ⟨i, _, h1, h2, _⟩; omega
  rintro k a w1 ⟨i, hF, hi, hk, hS⟩
  refine gc_of hF ?_
  clear hF
  refine gc_seq fun K5 hK5 => ?_
  refine gc_region ?_
  refine gl_op rfl rfl rfl (op_pure hT rfl) ?_
  refine gl_nil ?_
  refine hK5 _ _ ?_
  clear hK5; try clear K5
  refine gc_seq fun K6 hK6 => ?_
  refine gc_cond rfl rfl (fun c10 => ?_) (fun c10 => ?_)
  · try simp only [decide_eq_true_eq, decide_eq_false_iff_not, Bool.not_eq_true', Bool.not_eq_false', Int.not_lt, Int.not_le, Nat.not_lt, Nat.not_le, Bool.true_eq, Bool.false_eq, reduceCtorEq] at c10
    refine gc_skip ?_
    refine hK6 _ _ ?_
    clear hK6; try clear K6
    refine gc_seq fun K7 hK7 => ?_
    refine gc_block ?_
    refine gc_seq fun K8 hK8 => ?_
    refine gc_region ?_
    refine gl_op rfl rfl rfl (op_pure hT rfl) ?_
    refine gl_op rfl rfl rfl (op_pure hT rfl) ?_
    refine gl_nil ?_
    refine hK8 _ _ ?_
    clear hK8; try clear K8
    refine gc_region ?_
    refine gl_op rfl rfl rfl (op_pure hT rfl) ?_
    refine gl_op rfl rfl rfl (op_pure hT rfl) ?_
    refine gl_op rfl rfl rfl (op_pure hT rfl) ?_
    refine gl_ixR 0 hT hS rfl rfl rfl rfl rfl el3.cellsOf.1 el3.cellsOf.2 rfl rfl rfl (by omega) (by first | omega | (simp; omega)) (by first | exact Nat.le_refl _ | omega | (simp; omega)) fun g15 hg15 => ?_
    cases hg15
    refine gl_storeR 0 hS el3.cellsOf.1 el3.cellsOf.2 rfl rfl rfl rfl rfl rfl (by first | omega | (simp; omega)) rfl fun ws15 hS => ?_
    refine gl_nil ?_
    refine hK7 _ _ ?_
    clear hK7; try clear K7
    refine gc_region ?_
    first | refine gl_fit hT rfl rfl rfl rfl (by omega) ?_ | refine gl_op rfl rfl rfl (op_pure hT rfl) ?_
    refine gl_op rfl rfl rfl (op_pure hT rfl) ?_
    refine gl_nil ?_
    intro a ha
    have hS : St w.heap.size w _ [.row (some ⟨g6, 0, none⟩) n 3 1 n ((allB n i).set ((i : Int)).toNat (nV i))] := hS
    rw [Int.toNat_natCast, all_set n i (by omega)] at hS
    exact ⟨i + 1, ha.sub ⟨rfl, rfl, rfl, trivial⟩, by omega, by omega, hS⟩
  · try simp only [decide_eq_true_eq, decide_eq_false_iff_not, Bool.not_eq_true', Bool.not_eq_false', Int.not_lt, Int.not_le, Nat.not_lt, Nat.not_le, Bool.true_eq, Bool.false_eq, reduceCtorEq] at c10
    refine gc_exit ?_
    refine hK3 _ _ ?_
    clear hK3; try clear K3
    refine gc_seq fun K9 hK9 => ?_
    refine gc_region ?_
    refine gl_op rfl rfl rfl (op_pure hT rfl) ?_
    refine gl_op rfl rfl rfl (op_pure hT rfl) ?_
    refine gl_nil ?_
    refine hK9 _ _ ?_
    clear hK9; try clear K9
    refine gc_ret ?_
    try simp only [x_then_ret, x_block_ret]
    refine gk_ret1 rfl rfl ?_
    have hin : i = n := by omega
    subst hin
    have e1 : allB i i = (rangeI i).map nV := by unfold allB; simp
    rw [e1] at hS
    obtain ⟨h2, h3⟩ := hS.out (i := 0) rfl
    exact ⟨_, _, rfl, h2, h3⟩
theorem place_calls (s : Sh) (p : Sp) (w : World) (h1 : 0 ≤ s.h ∧ s.h ≤ 256) (h2 : 0 ≤ s.w ∧ s.w ≤ 256) (p1 : 0 ≤ p.c ∧ p.c ≤ 256) (p2 : 0 ≤ p.y ∧ p.y ≤ 256) (p3 : 0 ≤ p.x ∧ p.x ≤ 256) :
    Calls Try.prog 31 ⟨[.agg ⟨shC s⟩, .agg ⟨spC p⟩]⟩ w fun e w' => e = .returned (.int .i64 (placeV s p)) ∧ Below w.heap.size w w' := by
  have b1 := mul_bd0 (a := p.c) (b := s.h) (A := 256) (B := 256) (by omega) (by omega) (by omega) (by omega)
  have b2 := mul_bd0 (a := p.c * s.h + p.y) (b := s.w) (A := 65792) (B := 256) (by omega) (by omega) (by omega) (by omega)
  refine gc_enter (N := 19) Try.func31 rfl rfl rfl [(0, _), (1, _)] rfl ?_
  have hS := St.start w
  refine gc_seq fun K1 hK1 => ?_
  refine gc_region ?_
  refine gl_box hS rfl rfl rfl rfl rfl fun g2 w2 hS => ?_
  refine gl_box hS rfl rfl rfl rfl rfl fun g3 w3 hS => ?_
  refine gl_op rfl rfl rfl (op_pure hT rfl) ?_
  refine gl_nil ?_
  refine hK1 _ _ ?_
  clear hK1; try clear K1
  refine gc_seq fun K2 hK2 => ?_
  refine gc_region ?_
  refine gl_op rfl rfl rfl (op_ixA (j := 0) rfl Try.underlying66 el3 rfl rfl (by decide) (by decide) rfl) ?_
  refine gl_op rfl rfl rfl (op_loadB 1 hT hS rfl rfl rfl rfl rfl rfl) ?_
  refine gl_op rfl rfl rfl (op_fieldB 1 rfl Try.underlying27 rfl el3 rfl rfl) ?_
  refine gl_op rfl rfl rfl (op_loadB 0 hT hS rfl rfl rfl rfl rfl rfl) ?_
  first | refine gl_fit hT rfl rfl rfl rfl (by omega) ?_ | refine gl_op rfl rfl rfl (op_pure hT rfl) ?_
  refine gl_op rfl rfl rfl (op_ixA (j := 1) rfl Try.underlying66 el3 rfl rfl (by decide) (by decide) rfl) ?_
  refine gl_op rfl rfl rfl (op_loadB 1 hT hS rfl rfl rfl rfl rfl rfl) ?_
  first | refine gl_fit hT rfl rfl rfl rfl (by omega) ?_ | refine gl_op rfl rfl rfl (op_pure hT rfl) ?_
  refine gl_op rfl rfl rfl (op_fieldB 2 rfl Try.underlying27 rfl el3 rfl rfl) ?_
  refine gl_op rfl rfl rfl (op_loadB 0 hT hS rfl rfl rfl rfl rfl rfl) ?_
  first | refine gl_fit hT rfl rfl rfl rfl (by omega) ?_ | refine gl_op rfl rfl rfl (op_pure hT rfl) ?_
  refine gl_op rfl rfl rfl (op_ixA (j := 2) rfl Try.underlying66 el3 rfl rfl (by decide) (by decide) rfl) ?_
  refine gl_op rfl rfl rfl (op_loadB 1 hT hS rfl rfl rfl rfl rfl rfl) ?_
  first | refine gl_fit hT rfl rfl rfl rfl (by omega) ?_ | refine gl_op rfl rfl rfl (op_pure hT rfl) ?_
  refine gl_op rfl rfl rfl (op_pure hT rfl) ?_
  refine gl_nil ?_
  refine hK2 _ _ ?_
  clear hK2; try clear K2
  refine gc_ret ?_
  try simp only [x_then_ret, x_block_ret]
  refine gk_ret1 rfl rfl ?_
  exact ⟨rfl, hS.below⟩
theorem spot_calls (s : Sh) (i : Int) (w : World) (h1 : 1 ≤ s.h ∧ s.h ≤ 256) (h2 : 1 ≤ s.w ∧ s.w ≤ 256) (hi : 0 ≤ i ∧ i ≤ 1048576) :
    Calls Try.prog 26 ⟨[.agg ⟨shC s⟩, .int .i64 i]⟩ w fun e w' => e = .returned (.agg ⟨spC (spotV s i)⟩) ∧ Below w.heap.size w w' := by
  have b1 := mul_bd (a := s.h) (b := s.w) (A := 256) (B := 256) (by omega) (by omega) (by omega) (by omega)
  have b2 := div_bd (a := i) (b := s.w) (by omega) (by omega)
  refine gc_enter (N := 24) Try.func26 rfl rfl rfl [(0, _), (1, _)] rfl ?_
  have hS := St.start w
  refine gc_seq fun K1 hK1 => ?_
  refine gc_region ?_
  refine gl_box hS rfl rfl rfl rfl rfl fun g2 w2 hS => ?_
  refine gl_alloc el66 hS rfl rfl rfl rfl fun g4 w4 hS => ?_
  refine gl_nil ?_
  refine hK1 _ _ ?_
  clear hK1; try clear K1
  refine gc_seq fun K2 hK2 => ?_
  refine gc_anyS (hS.blank 1) (by kernel_rfl) rfl fun nq1 hK => ?_
  have hS := hS.dr nq1
  refine ga_take 0 rfl rfl rfl rfl (by kernel_rfl) (fun _ _ _ _ _ h => h) hK (fun w1 hS => op_pure hT rfl) ?_
  refine ga_take 1 rfl rfl rfl rfl (by kernel_rfl) (fun _ _ _ _ _ h => h) hK (fun w1 hS => op_fieldB 1 rfl Try.underlying27 rfl el3 rfl rfl) ?_
  refine ga_take 2 rfl rfl rfl rfl (by kernel_rfl) (fun _ _ _ _ _ h => h) hK (fun w1 hS => op_loadB 0 hT hS rfl rfl rfl rfl rfl rfl) ?_
  refine ga_take 3 rfl rfl rfl rfl (by kernel_rfl) (fun _ _ _ _ _ h => h) hK (fun w1 hS => op_fieldB 2 rfl Try.underlying27 rfl el3 rfl rfl) ?_
  refine ga_take 4 rfl rfl rfl rfl (by kernel_rfl) (fun _ _ _ _ _ h => h) hK (fun w1 hS => op_loadB 0 hT hS rfl rfl rfl rfl rfl rfl) ?_
  refine ga_take 5 rfl rfl rfl rfl (by kernel_rfl) (fun _ _ _ _ _ h => h) hK (fun w1 hS => (by first | exact op_fit hT rfl (by omega) | exact op_pure hT rfl)) ?_
  refine ga_take 6 rfl rfl rfl rfl (by kernel_rfl) (fun _ _ _ _ _ h => h) hK (fun w1 hS => (by first | exact op_quo hT rfl (by omega) (by omega) | exact op_pure hT rfl | exact op_quoS rfl rfl rfl (by omega) (by omega))) ?_
  refine ga_take 7 rfl rfl rfl rfl (by kernel_rfl) (fun _ _ _ _ _ h => h) hK (fun w1 hS => op_pure hT rfl) ?_
  refine ga_take 8 rfl rfl rfl rfl (by kernel_rfl) (fun _ _ _ _ _ h => h) hK (fun w1 hS => op_fieldB 2 rfl Try.underlying27 rfl el3 rfl rfl) ?_
  refine ga_take 9 rfl rfl rfl rfl (by kernel_rfl) (fun _ _ _ _ _ h => h) hK (fun w1 hS => op_loadB 0 hT hS rfl rfl rfl rfl rfl rfl) ?_
  refine ga_take 10 rfl rfl rfl rfl (by kernel_rfl) (fun _ _ _ _ _ h => h) hK (fun w1 hS => (by first | exact op_quo hT rfl (by omega) (by omega) | exact op_pure hT rfl | exact op_quoS rfl rfl rfl (by omega) (by omega))) ?_
  refine ga_take 11 rfl rfl rfl rfl (by kernel_rfl) (fun _ _ _ _ _ h => h) hK (fun w1 hS => op_fieldB 1 rfl Try.underlying27 rfl el3 rfl rfl) ?_
  refine ga_take 12 rfl rfl rfl rfl (by kernel_rfl) (fun _ _ _ _ _ h => h) hK (fun w1 hS => op_loadB 0 hT hS rfl rfl rfl rfl rfl rfl) ?_
  refine ga_take 13 rfl rfl rfl rfl (by kernel_rfl) (fun _ _ _ _ _ h => h) hK (fun w1 hS => (by first | exact op_rem hT rfl (by omega) | exact op_pure hT rfl | exact op_remS rfl rfl rfl (by omega) (by omega))) ?_
  refine ga_take 14 rfl rfl rfl rfl (by kernel_rfl) (fun _ _ _ _ _ h => h) hK (fun w1 hS => op_pure hT rfl) ?_
  refine ga_take 15 rfl rfl rfl rfl (by kernel_rfl) (fun _ _ _ _ _ h => h) hK (fun w1 hS => op_fieldB 2 rfl Try.underlying27 rfl el3 rfl rfl) ?_
  refine ga_take 16 rfl rfl rfl rfl (by kernel_rfl) (fun _ _ _ _ _ h => h) hK (fun w1 hS => op_loadB 0 hT hS rfl rfl rfl rfl rfl rfl) ?_
  refine ga_take 17 rfl rfl rfl rfl (by kernel_rfl) (fun _ _ _ _ _ h => h) hK (fun w1 hS => (by first | exact op_rem hT rfl (by omega) | exact op_pure hT rfl | exact op_remS rfl rfl rfl (by omega) (by omega))) ?_
  refine ga_take 18 rfl rfl rfl rfl (by kernel_rfl) (fun _ _ _ _ _ h => h) hK (fun w1 hS => op_buildG rfl plan66 rfl rfl) ?_
  refine ga_one 19 (by kernel_rfl) rfl ?_
  refine gl_storeM 1 hS el66 rfl rfl rfl rfl rfl rfl rfl rfl rfl fun wrows_go_27 hS => ?_
  refine gl_nil ?_
  refine ga_next ((hS.blank 1).pre 2) fun hK => ?_
  refine ga_done (by kernel_rfl) ?_
  refine hK2 _ _ ?_
  clear hK2; try clear K2
  refine gc_ret ?_
  try simp only [x_then_ret, x_block_ret]
  refine gk_res1 rfl (⟨_, rfl, run_loadVarB 1 Try.underlying66 rfl el66 hS rfl rfl rfl⟩) ?_
  exact ⟨rfl, hS.below⟩
theorem mu64_xor (a b : Nat) (ha : a < 18446744073709551616) (hb : b < 18446744073709551616) : Go.bits .xor .u64 (a : Int) (b : Int) = ((a ^^^ b : Nat) : Int) := by
  show Go.IntKind.u64.wrap ((BitVec.ofInt 64 (a : Int) ^^^ BitVec.ofInt 64 (b : Int)).toNat : Int) = _
  have h3 : a ^^^ b < 2 ^ 64 := Nat.xor_lt_two_pow ha hb
  rw [BitVec.toNat_xor, mofInt_u64 a ha, mofInt_u64 b hb, IntKind.wrap_u64]
  omega
theorem turn_calls (A : Option Addr) (c : Nat) (l : List (Nat × Nat)) (z : Nat × Nat) (b : Bool) (w : World) {ok : Nat → Prop} (h1 : RdE w ok cV A l) (hl : l.length ≤ 1048576) (hf : ∀ x ∈ l, x.2 < 18446744073709551616) :
    Calls Try.prog 29 ⟨[.slice A l.length c, cV z, .bool b]⟩ w fun e w' => ∃ A' c', e = .returned (.tuple #[.slice A' (turnW b l).length c', .float .f64 (if b then z.2 else z.1)]) ∧ Owns w' w.heap.size A' c' 28 1 (turnW b l).length ((turnW b l).map fV) ∧ Below w.heap.size w w' := by
  refine gc_enter (N := 43) Try.func29 rfl rfl rfl [(0, _), (1, _), (2, _)] rfl ?_
  have hS := St.start w
  refine gc_seq fun K1 hK1 => ?_
  refine gc_region ?_
  refine gl_op rfl rfl rfl (op_pure hT rfl) ?_
  refine gl_op rfl rfl rfl (op_pure hT rfl) ?_
  refine gl_nil ?_
  refine hK1 _ _ ?_
  clear hK1; try clear K1
  refine gc_seq fun K2 hK2 => ?_
  refine gc_region ?_
  refine gl_op rfl rfl rfl (op_pure hT rfl) ?_
  refine gl_nil ?_
  refine hK2 _ _ ?_
  clear hK2; try clear K2
  refine gc_seq fun K3 hK3 => ?_
  refine gc_seq fun K4 hK4 => ?_
  refine gc_region ?_
  refine gl_op rfl rfl rfl (op_pure hT rfl) ?_
  refine gl_op rfl rfl rfl (op_pure hT rfl) ?_
  refine gl_op rfl rfl rfl (op_pure hT rfl) ?_
  refine gl_nil ?_
  refine hK4 _ _ ?_
  clear hK4; try clear K4
  refine gc_block ?_
  have hS := hS.nil 28 1
  refine gc_loop (fun k a w' => ∃ (i : Nat) (A' : Option Addr) (c' : Nat), Fr 43 a [(1, cV z), (2, .bool b), (8, .slice A' (turnW b (l.take i)).length c'), (11, .slice A l.length c), (12, .int .i64 (l.length : Nat)), (13, .int .i64 (i : Nat))] ∧ i ≤ l.length ∧ k = l.length + 1 - i ∧ St w.heap.size w w' [.row A' c' 28 1 (turnW b (l.take i)).length ((turnW b (l.take i)).map fV)]) (l.length + 1) ?_ ?_ ?_
  · intro a ha; exact ⟨0, none, 0, ha.sub ⟨rfl, rfl, rfl, rfl, rfl, rfl, trivial⟩, by omega, by omega, hS⟩
  · rintro a w ⟨i, _, _, _, h1, h2, _⟩; omega
  rintro k a w1 ⟨i, A', c', hF, hi, hk, hS⟩
  refine gc_of hF ?_
  clear hF
  have htl := turnW_len b (l.take i)
  have htk : (l.take i).length ≤ 1048576 := by rw [List.length_take]; omega
  refine gc_seq fun K5 hK5 => ?_
  refine gc_region ?_
  refine gl_op rfl rfl rfl (op_pure hT rfl) ?_
  refine gl_nil ?_
  refine hK5 _ _ ?_
  clear hK5; try clear K5
  refine gc_seq fun K6 hK6 => ?_
  refine gc_cond rfl rfl (fun c14 => ?_) (fun c14 => ?_)
  · try simp only [decide_eq_true_eq, decide_eq_false_iff_not, Bool.not_eq_true', Bool.not_eq_false', Int.not_lt, Int.not_le, Nat.not_lt, Nat.not_le, Bool.true_eq, Bool.false_eq, reduceCtorEq] at c14
    refine gc_skip ?_
    refine hK6 _ _ ?_
    clear hK6; try clear K6
    refine gc_seq fun K7 hK7 => ?_
    refine gc_block ?_
    refine gc_seq fun K8 hK8 => ?_
    refine gc_region ?_
    refine gl_ix default hT (h1.old hS) rfl rfl rfl rfl rfl el52.cellsOf.1 el52.cellsOf.2 rfl (by simp) rfl (by omega) (by first | omega | (simp; omega)) fun p15 hp15 => ?_
    have hil : i < l.length := by omega
    obtain ⟨x, hx⟩ : ∃ x, x = l.getD i (0, 0) := ⟨_, rfl⟩
    have hst : l.getD ((i : Int)).toNat default = x := by rw [hx]; simp [List.getD_eq_getElem?_getD, hil]
    have htake : l.take (i + 1) = l.take i ++ [x] := by rw [List.take_add_one, hx, List.getD_eq_getElem?_getD, List.getElem?_eq_getElem hil]; rfl
    have hx2 : x.2 < 18446744073709551616 := hf x (by rw [hx, List.getD_eq_getElem?_getD, List.getElem?_eq_getElem hil]; exact List.getElem_mem hil)
    rw [hst] at hp15
    refine gl_op rfl rfl rfl (op_load hT rfl rfl rfl rfl hp15) ?_
    refine gl_op rfl rfl rfl (op_pure hT rfl) ?_
    refine gl_nil ?_
    refine hK8 _ _ ?_
    clear hK8; try clear K8
    refine gc_seq fun K9 hK9 => ?_
    refine gc_region ?_
    refine gl_op rfl rfl rfl (op_pure hT rfl) ?_
    refine gl_nil ?_
    refine hK9 _ _ ?_
    clear hK9; try clear K9
    refine gc_cond rfl rfl (fun c17 => ?_) (fun c17 => ?_)
    · try simp only [decide_eq_true_eq, decide_eq_false_iff_not, Bool.not_eq_true', Bool.not_eq_false', Int.not_lt, Int.not_le, Nat.not_lt, Nat.not_le, Bool.true_eq, Bool.false_eq, reduceCtorEq] at c17
      have hadd : turnW b (l.take (i + 1)) = turnW b (l.take i) ++ [x.2, x.1] := by rw [htake, turnW_append, c17]; rfl
      refine gc_region ?_
      refine gl_op rfl rfl rfl (op_pure hT rfl) ?_
      refine gl_op rfl rfl rfl (op_pure hT rfl) ?_
      refine gl_op rfl rfl rfl (op_imag rfl rfl) ?_
      refine gl_op rfl rfl rfl (op_pure hT rfl) ?_
      refine gl_op rfl rfl rfl (op_real rfl rfl) ?_
      refine gl_lit hT hS el28 rfl rfl rfl rfl rfl rfl rfl rfl rfl fun g23 w23 hS => ?_
      refine gl_append 0 hT hS el28 (hS.rd (i := 1) rfl) (rfl) rfl rfl rfl rfl rfl rfl rfl rfl (by first | omega | (simp; omega)) (by first | omega | (simp; omega)) fun A24 c24 w24 hS => ?_
      have hS := hS.erase 1
      refine gl_op rfl rfl rfl (op_pure hT rfl) ?_
      refine gl_nil ?_
      refine hK7 _ _ ?_
      clear hK7; try clear K7
      refine gc_region ?_
      first | refine gl_fit hT rfl rfl rfl rfl (by omega) ?_ | refine gl_op rfl rfl rfl (op_pure hT rfl) ?_
      refine gl_op rfl rfl rfl (op_pure hT rfl) ?_
      refine gl_nil ?_
      intro a ha
      have e1 : (turnW b (l.take (i + 1))).length = (turnW b (l.take i)).length + 2 := by rw [hadd, List.length_append]; rfl
      first
        | (refine ⟨i + 1, A24, c24, ha.sub ⟨rfl, ?_, ?_, rfl, rfl, rfl, trivial⟩, by omega, by omega, ?_⟩
           · rw [c17]; rfl
           · rw [e1]; rfl
           · rw [e1, hadd, List.map_append]; exact hS)
        | (refine ⟨i + 1, A34, c34, ha.sub ⟨rfl, ?_, ?_, rfl, rfl, rfl, trivial⟩, by omega, by omega, ?_⟩
           · rw [c17]; rfl
           · rw [e1]; rfl
           · rw [e1, hadd, List.map_append]; exact hS)
    · try simp only [decide_eq_true_eq, decide_eq_false_iff_not, Bool.not_eq_true', Bool.not_eq_false', Int.not_lt, Int.not_le, Nat.not_lt, Nat.not_le, Bool.true_eq, Bool.false_eq, reduceCtorEq] at c17
      have hadd : turnW b (l.take (i + 1)) = turnW b (l.take i) ++ [x.1, ngB x.2] := by rw [htake, turnW_append, c17]; rfl
      refine gc_region ?_
      refine gl_op rfl rfl rfl (op_pure hT rfl) ?_
      refine gl_op rfl rfl rfl (op_pure hT rfl) ?_
      refine gl_op rfl rfl rfl (op_real rfl rfl) ?_
      refine gl_op rfl rfl rfl (op_pure hT rfl) ?_
      refine gl_op rfl rfl rfl (op_imag rfl rfl) ?_
      refine gl_callf rfl rfl rfl rfl Try.func36 rfl rfl rfl (mBits_calls x.2 _) ?_
      rintro _ _ ⟨rfl, n30, rfl⟩
      refine ⟨_, rfl, ?_⟩
      have hS := hS.dr n30
      refine gl_op rfl rfl rfl (op_pure hT rfl) ?_
      refine gl_spell 31 (v := .int .u64 ((ngB x.2 : Nat) : Int)) rfl ?_ ?_
      · show Value.int .u64 (bits .xor .u64 (x.2 : Nat) ((9223372036854775808 : Nat) : Int)) = _
        rw [mu64_xor _ _ hx2 (by decide)]; rfl
      refine gl_callf rfl rfl rfl rfl Try.func44 rfl rfl rfl (mFloat_calls _ _) ?_
      rintro _ _ ⟨rfl, n32, rfl⟩
      refine ⟨_, rfl, ?_⟩
      have hS := hS.dr n32
      refine gl_lit hT hS el28 rfl rfl rfl rfl rfl rfl rfl rfl rfl fun g33 w33 hS => ?_
      refine gl_append 0 hT hS el28 (hS.rd (i := 1) rfl) (rfl) rfl rfl rfl rfl rfl rfl rfl rfl (by first | omega | (simp; omega)) (by first | omega | (simp; omega)) fun A34 c34 w34 hS => ?_
      have hS := hS.erase 1
      refine gl_op rfl rfl rfl (op_pure hT rfl) ?_
      refine gl_nil ?_
      refine hK7 _ _ ?_
      clear hK7; try clear K7
      refine gc_region ?_
      first | refine gl_fit hT rfl rfl rfl rfl (by omega) ?_ | refine gl_op rfl rfl rfl (op_pure hT rfl) ?_
      refine gl_op rfl rfl rfl (op_pure hT rfl) ?_
      refine gl_nil ?_
      intro a ha
      have e1 : (turnW b (l.take (i + 1))).length = (turnW b (l.take i)).length + 2 := by rw [hadd, List.length_append]; rfl
      first
        | (refine ⟨i + 1, A24, c24, ha.sub ⟨rfl, ?_, ?_, rfl, rfl, rfl, trivial⟩, by omega, by omega, ?_⟩
           · rw [c17]; rfl
           · rw [e1]; rfl
           · rw [e1, hadd, List.map_append]; exact hS)
        | (refine ⟨i + 1, A34, c34, ha.sub ⟨rfl, ?_, ?_, rfl, rfl, rfl, trivial⟩, by omega, by omega, ?_⟩
           · rw [c17]; rfl
           · rw [e1]; rfl
           · rw [e1, hadd, List.map_append]; exact hS)
  · try simp only [decide_eq_true_eq, decide_eq_false_iff_not, Bool.not_eq_true', Bool.not_eq_false', Int.not_lt, Int.not_le, Nat.not_lt, Nat.not_le, Bool.true_eq, Bool.false_eq, reduceCtorEq] at c14
    have hin : l.take i = l := List.take_of_length_le (by omega)
    rw [hin] at hS ⊢
    refine gc_exit ?_
    refine hK3 _ _ ?_
    clear hK3; try clear K3
    refine gc_seq fun K10 hK10 => ?_
    refine gc_seq fun K11 hK11 => ?_
    refine gc_region ?_
    refine gl_op rfl rfl rfl (op_pure hT rfl) ?_
    refine gl_nil ?_
    refine hK11 _ _ ?_
    clear hK11; try clear K11
    refine gc_cond rfl rfl (fun c36 => ?_) (fun c36 => ?_)
    · try simp only [decide_eq_true_eq, decide_eq_false_iff_not, Bool.not_eq_true', Bool.not_eq_false', Int.not_lt, Int.not_le, Nat.not_lt, Nat.not_le, Bool.true_eq, Bool.false_eq, reduceCtorEq] at c36
      refine gc_seq fun K12 hK12 => ?_
      refine gc_region ?_
      refine gl_op rfl rfl rfl (op_pure hT rfl) ?_
      refine gl_op rfl rfl rfl (op_pure hT rfl) ?_
      refine gl_op rfl rfl rfl (op_imag rfl rfl) ?_
      refine gl_op rfl rfl rfl (op_pure hT rfl) ?_
      refine gl_op rfl rfl rfl (op_pure hT rfl) ?_
      refine gl_nil ?_
      refine hK12 _ _ ?_
      clear hK12; try clear K12
      refine gc_ret ?_
      try simp only [x_then_ret, x_block_ret]
      refine gk_ret2 rfl rfl rfl ?_
      obtain ⟨h2, h3⟩ := hS.out (i := 0) rfl
      refine ⟨_, _, ?_, h2, h3⟩
      rw [c36]; rfl
    · try simp only [decide_eq_true_eq, decide_eq_false_iff_not, Bool.not_eq_true', Bool.not_eq_false', Int.not_lt, Int.not_le, Nat.not_lt, Nat.not_le, Bool.true_eq, Bool.false_eq, reduceCtorEq] at c36
      refine gc_skip ?_
      refine hK10 _ _ ?_
      clear hK10; try clear K10
      refine gc_seq fun K13 hK13 => ?_
      refine gc_region ?_
      refine gl_op rfl rfl rfl (op_pure hT rfl) ?_
      refine gl_op rfl rfl rfl (op_pure hT rfl) ?_
      refine gl_op rfl rfl rfl (op_real rfl rfl) ?_
      refine gl_op rfl rfl rfl (op_pure hT rfl) ?_
      refine gl_op rfl rfl rfl (op_pure hT rfl) ?_
      refine gl_nil ?_
      refine hK13 _ _ ?_
      clear hK13; try clear K13
      refine gc_ret ?_
      try simp only [x_then_ret, x_block_ret]
      refine gk_ret2 rfl rfl rfl ?_
      obtain ⟨h2, h3⟩ := hS.out (i := 0) rfl
      refine ⟨_, _, ?_, h2, h3⟩
      rw [c36]; rfl
end Go.Proofs.Ytkfhablonnjgeaa
