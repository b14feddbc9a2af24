/- Contracts of ambitlaw7.input, at, window, windows. No condition. -/
import Derived.Test.YtkfhablonnjgeaaWw1
namespace Go.Proofs.Ytkfhablonnjgeaa
open Go.RowKit
set_option linter.unusedVariables false
set_option linter.unusedSimpArgs false
def inputV (seed : Int) (n : Nat) : List Int := (List.range n).map fun (i : Nat) => smallV (IntKind.i64.wrap (seed + 1)) (i : Int)
theorem inputV_succ (seed : Int) (n : Nat) : inputV seed (n + 1) = inputV seed n ++ [smallV (IntKind.i64.wrap (seed + 1)) (n : Int)] := by simp [inputV, List.range_succ]
theorem inputV_len (seed : Int) (n : Nat) : (inputV seed n).length = n := by simp [inputV]
theorem inputV_mem {seed : Int} {n : Nat} {x : Int} (h : x ∈ inputV seed n) : ∃ a b, x = smallV a b := by
  unfold inputV at h
  obtain ⟨i, _, h⟩ := List.mem_map.1 h
  exact ⟨_, _, h.symm⟩
theorem inputV_bd (seed : Int) (n j : Nat) : -9 ≤ (inputV seed n).getD j 0 ∧ (inputV seed n).getD j 0 ≤ 9 := by
  rw [List.getD_eq_getElem?_getD]
  cases h : (inputV seed n)[j]? with
  | none => simp
  | some x =>
    obtain ⟨a, b, he⟩ := inputV_mem (List.mem_of_getElem? h)
    have hb := smallV_bd a b
    rw [← he] at hb
    exact hb
theorem input_calls (seed : Int) (n : Nat) (w : World) (hse : i64 seed) (hn : n ≤ 256) :
    Calls Try.prog 11 ⟨[.int .i64 seed, .int .i64 (n : Nat)]⟩ w fun e w' => ∃ A c K, e = .returned (.slice A n c) ∧ RdE w' K nV A (inputV seed n) ∧ St w.heap.size w w' [.keep K w'] := by
  refine gc_enter (N := 20) Try.func11 rfl rfl rfl [(0, _), (1, _)] rfl ?_
  have hS := St.start w
  refine gc_seq fun K1 hK1 => ?_
  refine gc_region ?_
  refine gl_op rfl rfl rfl (op_pure hT rfl) ?_
  refine gl_nil ?_
  refine hK1 _ _ ?_
  clear hK1; try clear K1
  refine gc_seq fun K2 hK2 => ?_
  refine gc_region ?_
  refine gl_op rfl rfl rfl (op_pure hT rfl) ?_
  refine gl_nil ?_
  refine hK2 _ _ ?_
  clear hK2; try clear K2
  refine gc_seq fun K3 hK3 => ?_
  refine gc_seq fun K4 hK4 => ?_
  refine gc_region ?_
  refine gl_op rfl rfl rfl (op_pure hT rfl) ?_
  refine gl_nil ?_
  refine hK4 _ _ ?_
  clear hK4; try clear K4
  refine gc_block ?_
  have hS := hS.nil 3 1
  refine gc_loop (fun kk a w' => ∃ (i : Nat) (A : Option Addr) (c : Nat), Fr 20 a [(0, .int .i64 seed), (1, .int .i64 (n : Nat)), (5, .slice A i c), (6, .int .i64 (i : Nat))] ∧ i ≤ n ∧ kk = n + 1 - i ∧ St w.heap.size w w' [.row A c 3 1 i ((inputV seed i).map nV)]) (n + 1) ?_ ?_ ?_
  · intro a ha; exact ⟨0, none, 0, ha.sub ⟨rfl, rfl, rfl, rfl, trivial⟩, by omega, by omega, hS⟩
  · rintro a w' ⟨i, _, _, _, h1, h2, _⟩; omega
  rintro kk a w1 ⟨i, A, c, hF, hi, hk, hS⟩
  refine gc_of hF ?_
  clear hF
  refine gc_seq fun K5 hK5 => ?_
  refine gc_seq fun K6 hK6 => ?_
  refine gc_region ?_
  refine gl_op rfl rfl rfl (op_pure hT rfl) ?_
  refine gl_op rfl rfl rfl (op_pure hT rfl) ?_
  refine gl_op rfl rfl rfl (op_pure hT rfl) ?_
  refine gl_nil ?_
  refine hK6 _ _ ?_
  clear hK6; try clear K6
  refine gc_cond rfl rfl (fun c9 => ?_) (fun c9 => ?_)
  · try simp only [decide_eq_true_eq, decide_eq_false_iff_not, Bool.not_eq_true', Bool.not_eq_false', Int.not_lt, Int.not_le, Nat.not_lt, Nat.not_le, Bool.true_eq, Bool.false_eq, reduceCtorEq] at c9
    refine gc_skip ?_
    refine hK5 _ _ ?_
    clear hK5; try clear K5
    refine gc_seq fun K7 hK7 => ?_
    refine gc_block ?_
    refine gc_region ?_
    refine gl_op rfl rfl rfl (op_pure hT rfl) ?_
    refine gl_op rfl rfl rfl (op_pure hT rfl) ?_
    first | refine gl_fit hT rfl rfl rfl rfl (by omega) ?_ | refine gl_op rfl rfl rfl (op_pure hT rfl) ?_
    refine gl_op rfl rfl rfl (op_pure hT rfl) ?_
    refine gl_callf rfl rfl rfl rfl Try.func18 rfl rfl rfl (small_calls (IntKind.i64.wrap (seed + 1)) i _) ?_
    rintro _ _ ⟨rfl, n16, rfl⟩
    refine ⟨_, rfl, ?_⟩
    have hS := hS.dr n16
    refine gl_lit hT hS el3 rfl rfl rfl rfl rfl rfl rfl rfl rfl fun g17 w17 hS => ?_
    refine gl_append 0 hT hS el3 (hS.rd (i := 1) rfl) (rfl) rfl rfl rfl rfl rfl rfl rfl rfl (by first | omega | (simp; omega)) (by first | omega | (simp; omega)) fun A18 c18 w18 hS => ?_
    have hS := hS.erase 1
    refine gl_op rfl rfl rfl (op_pure hT rfl) ?_
    refine gl_nil ?_
    refine hK7 _ _ ?_
    clear hK7; try clear K7
    refine gc_region ?_
    refine gl_op rfl rfl rfl (op_pure hT rfl) ?_
    first | refine gl_fit hT rfl rfl rfl rfl (by omega) ?_ | refine gl_op rfl rfl rfl (op_pure hT rfl) ?_
    refine gl_op rfl rfl rfl (op_pure hT rfl) ?_
    refine gl_nil ?_
    intro a ha
    refine ⟨i + 1, A18, c18, ha.sub ⟨rfl, rfl, rfl, rfl, trivial⟩, by omega, by omega, ?_⟩
    rw [inputV_succ, List.map_append]
    exact hS
  · try simp only [decide_eq_true_eq, decide_eq_false_iff_not, Bool.not_eq_true', Bool.not_eq_false', Int.not_lt, Int.not_le, Nat.not_lt, Nat.not_le, Bool.true_eq, Bool.false_eq, reduceCtorEq] at c9
    refine gc_exit ?_
    refine hK3 _ _ ?_
    clear hK3; try clear K3
    refine gc_seq fun K8 hK8 => ?_
    refine gc_region ?_
    refine gl_op rfl rfl rfl (op_pure hT rfl) ?_
    refine gl_op rfl rfl rfl (op_pure hT rfl) ?_
    refine gl_nil ?_
    refine hK8 _ _ ?_
    clear hK8; try clear K8
    refine gc_ret ?_
    try simp only [x_then_ret, x_block_ret]
    refine gk_ret1 rfl rfl ?_
    have hin : i = n := by omega
    subst hin
    exact ⟨A, c, _, rfl, rdE_of (hS.rowRd (i := 0) rfl fun b hb => ⟨_, by simp, hb⟩) (inputV_len _ _), hS.keepAll⟩
theorem mul9 {a b : Int} (ha : -9 ≤ a ∧ a ≤ 9) (hb : -9 ≤ b ∧ b ≤ 9) : -81 ≤ a * b ∧ a * b ≤ 81 := by
  have h2 : a = -9 ∨ a = -8 ∨ a = -7 ∨ a = -6 ∨ a = -5 ∨ a = -4 ∨ a = -3 ∨ a = -2 ∨ a = -1 ∨ a = 0 ∨ a = 1 ∨ a = 2 ∨ a = 3 ∨ a = 4 ∨ a = 5 ∨ a = 6 ∨ a = 7 ∨ a = 8 ∨ a = 9 := by omega
  rcases h2 with rfl | rfl | rfl | rfl | rfl | rfl | rfl | rfl | rfl | rfl | rfl | rfl | rfl | rfl | rfl | rfl | rfl | rfl | rfl <;> omega
/-- A list of small whole numbers. -/
abbrev Sml (v : List Int) : Prop := ∀ j : Nat, -9 ≤ v.getD j 0 ∧ v.getD j 0 ≤ 9
theorem atV_bd {v : List Int} (h : Sml v) (s : Sh) (c y x : Int) : -9 ≤ atV v s c y x ∧ atV v s c y x ≤ 9 := by
  unfold atV; split
  · omega
  · exact h _
theorem at_calls (A : Option Addr) (n c : Nat) (v : List Int) (s : Sh) (cc y x : Int) (w : World) {ok : Nat → Prop} (hv : RdE w ok nV A v) (hn : n = v.length) (hs : ¬ szBad s) (hvl : (v.length : Int) = s.c * s.h * s.w) (hc : 0 ≤ cc ∧ cc < s.c) :
    Calls Try.prog 39 ⟨[.slice A n c, .agg ⟨shC s⟩, .int .i64 cc, .int .i64 y, .int .i64 x]⟩ w fun e w' => e = .returned (.int .i64 (atV v s cc y x)) ∧ Below w.heap.size w w' := by
  subst hn
  have hg := sz_good hs
  have m4 := mul_bd (a := s.c) (b := s.h) (A := 256) (B := 256) (by omega) (by omega) (by omega) (by omega)
  refine gc_enter (N := 43) Try.func39 rfl rfl rfl [(0, _), (1, _), (2, _), (3, _), (4, _)] rfl ?_
  have hS := St.start w
  refine gc_seq fun K1 hK1 => ?_
  refine gc_region ?_
  refine gl_box hS rfl rfl rfl rfl rfl fun g6 w6 hS => ?_
  refine gl_op rfl rfl rfl (op_pure hT rfl) ?_
  refine gl_nil ?_
  refine hK1 _ _ ?_
  clear hK1; try clear K1
  refine gc_seq fun K2 hK2 => ?_
  refine gc_seq fun K3 hK3 => ?_
  refine gc_region ?_
  refine gl_op rfl rfl rfl (op_pure hT rfl) ?_
  refine gl_op rfl rfl rfl (op_pure hT rfl) ?_
  refine gl_op rfl rfl rfl (op_pure hT rfl) ?_
  refine gl_split (t := 13) rfl (fun c13 => ?_) (fun c13 => ?_)
  · try simp only [decide_eq_true_eq, decide_eq_false_iff_not, Bool.not_eq_true', Bool.not_eq_false', Int.not_lt, Int.not_le, Nat.not_lt, Nat.not_le, Bool.true_eq, Bool.false_eq, reduceCtorEq] at c13
    refine gl_pass rfl rfl rfl rfl rfl rfl ?_
    refine gl_pass rfl rfl rfl rfl rfl rfl ?_
    refine gl_pass rfl rfl rfl rfl rfl rfl ?_
    refine gl_pass rfl rfl rfl rfl rfl rfl ?_
    refine gl_op rfl rfl rfl (op_pure hT rfl) ?_
    refine gl_op rfl rfl rfl (op_pure hT rfl) ?_
    refine gl_pass rfl rfl rfl rfl rfl rfl ?_
    refine gl_pass rfl rfl rfl rfl rfl rfl ?_
    refine gl_op rfl rfl rfl (op_pure hT rfl) ?_
    refine gl_op rfl rfl rfl (op_pure hT rfl) ?_
    refine gl_pass rfl rfl rfl rfl rfl rfl ?_
    refine gl_pass rfl rfl rfl rfl rfl rfl ?_
    refine gl_pass rfl rfl rfl rfl rfl rfl ?_
    refine gl_pass rfl rfl rfl rfl rfl rfl ?_
    refine gl_op rfl rfl rfl (op_pure hT rfl) ?_
    refine gl_nil ?_
    refine hK3 _ _ ?_
    clear hK3; try clear K3
    refine gc_cond_t rfl ?_
    refine gc_seq fun K4 hK4 => ?_
    refine gc_region ?_
    refine gl_op rfl rfl rfl (op_pure hT rfl) ?_
    refine gl_nil ?_
    refine hK4 _ _ ?_
    clear hK4; try clear K4
    refine gc_ret ?_
    try simp only [x_then_ret, x_block_ret]
    refine gk_ret1 rfl rfl ?_
    refine ⟨?_, hS.below⟩
    first
      | (rw [show atV v s cc y x = 0 by unfold atV; exact if_pos (by omega)]; done)
      | (rw [show atV v s cc y x = v.getD ((cc * s.h + y) * s.w + x).toNat 0 by unfold atV; exact if_neg (by omega)]; done)
      | trace_state
  · try simp only [decide_eq_true_eq, decide_eq_false_iff_not, Bool.not_eq_true', Bool.not_eq_false', Int.not_lt, Int.not_le, Nat.not_lt, Nat.not_le, Bool.true_eq, Bool.false_eq, reduceCtorEq] at c13
    refine gl_un rfl rfl rfl rfl ?_
    refine gl_op rfl rfl rfl (op_pure hT rfl) ?_
    refine gl_un rfl rfl rfl rfl ?_
    refine gl_op rfl rfl rfl (op_fieldB 1 rfl Try.underlying27 rfl el3 rfl rfl) ?_
    refine gl_un rfl rfl rfl rfl ?_
    refine gl_op rfl rfl rfl (op_loadB 0 hT hS rfl rfl rfl rfl rfl rfl) ?_
    refine gl_un rfl rfl rfl rfl ?_
    refine gl_op rfl rfl rfl (op_pure hT rfl) ?_
    refine gl_op rfl rfl rfl (op_pure hT rfl) ?_
    refine gl_op rfl rfl rfl (op_pure hT rfl) ?_
    refine gl_split (t := 19) rfl (fun c19 => ?_) (fun c19 => ?_)
    · try simp only [decide_eq_true_eq, decide_eq_false_iff_not, Bool.not_eq_true', Bool.not_eq_false', Int.not_lt, Int.not_le, Nat.not_lt, Nat.not_le, Bool.true_eq, Bool.false_eq, reduceCtorEq] at c19
      refine gl_pass rfl rfl rfl rfl rfl rfl ?_
      refine gl_pass rfl rfl rfl rfl rfl rfl ?_
      refine gl_op rfl rfl rfl (op_pure hT rfl) ?_
      refine gl_op rfl rfl rfl (op_pure hT rfl) ?_
      refine gl_pass rfl rfl rfl rfl rfl rfl ?_
      refine gl_pass rfl rfl rfl rfl rfl rfl ?_
      refine gl_pass rfl rfl rfl rfl rfl rfl ?_
      refine gl_pass rfl rfl rfl rfl rfl rfl ?_
      refine gl_op rfl rfl rfl (op_pure hT rfl) ?_
      refine gl_nil ?_
      refine hK3 _ _ ?_
      clear hK3; try clear K3
      refine gc_cond_t rfl ?_
      refine gc_seq fun K5 hK5 => ?_
      refine gc_region ?_
      refine gl_op rfl rfl rfl (op_pure hT rfl) ?_
      refine gl_nil ?_
      refine hK5 _ _ ?_
      clear hK5; try clear K5
      refine gc_ret ?_
      try simp only [x_then_ret, x_block_ret]
      refine gk_ret1 rfl rfl ?_
      refine ⟨?_, hS.below⟩
      first
        | (rw [show atV v s cc y x = 0 by unfold atV; exact if_pos (by omega)]; done)
        | (rw [show atV v s cc y x = v.getD ((cc * s.h + y) * s.w + x).toNat 0 by unfold atV; exact if_neg (by omega)]; done)
        | trace_state
    · try simp only [decide_eq_true_eq, decide_eq_false_iff_not, Bool.not_eq_true', Bool.not_eq_false', Int.not_lt, Int.not_le, Nat.not_lt, Nat.not_le, Bool.true_eq, Bool.false_eq, reduceCtorEq] at c19
      refine gl_un rfl rfl rfl rfl ?_
      refine gl_op rfl rfl rfl (op_pure hT rfl) ?_
      refine gl_un rfl rfl rfl rfl ?_
      refine gl_op rfl rfl rfl (op_pure hT rfl) ?_
      refine gl_op rfl rfl rfl (op_pure hT rfl) ?_
      refine gl_op rfl rfl rfl (op_pure hT rfl) ?_
      refine gl_split (t := 23) rfl (fun c23 => ?_) (fun c23 => ?_)
      · try simp only [decide_eq_true_eq, decide_eq_false_iff_not, Bool.not_eq_true', Bool.not_eq_false', Int.not_lt, Int.not_le, Nat.not_lt, Nat.not_le, Bool.true_eq, Bool.false_eq, reduceCtorEq] at c23
        refine gl_pass rfl rfl rfl rfl rfl rfl ?_
        refine gl_pass rfl rfl rfl rfl rfl rfl ?_
        refine gl_pass rfl rfl rfl rfl rfl rfl ?_
        refine gl_pass rfl rfl rfl rfl rfl rfl ?_
        refine gl_op rfl rfl rfl (op_pure hT rfl) ?_
        refine gl_nil ?_
        refine hK3 _ _ ?_
        clear hK3; try clear K3
        refine gc_cond_t rfl ?_
        refine gc_seq fun K6 hK6 => ?_
        refine gc_region ?_
        refine gl_op rfl rfl rfl (op_pure hT rfl) ?_
        refine gl_nil ?_
        refine hK6 _ _ ?_
        clear hK6; try clear K6
        refine gc_ret ?_
        try simp only [x_then_ret, x_block_ret]
        refine gk_ret1 rfl rfl ?_
        refine ⟨?_, hS.below⟩
        first
          | (rw [show atV v s cc y x = 0 by unfold atV; exact if_pos (by omega)]; done)
          | (rw [show atV v s cc y x = v.getD ((cc * s.h + y) * s.w + x).toNat 0 by unfold atV; exact if_neg (by omega)]; done)
          | trace_state
      · try simp only [decide_eq_true_eq, decide_eq_false_iff_not, Bool.not_eq_true', Bool.not_eq_false', Int.not_lt, Int.not_le, Nat.not_lt, Nat.not_le, Bool.true_eq, Bool.false_eq, reduceCtorEq] at c23
        refine gl_un rfl rfl rfl rfl ?_
        refine gl_op rfl rfl rfl (op_pure hT rfl) ?_
        refine gl_un rfl rfl rfl rfl ?_
        refine gl_op rfl rfl rfl (op_fieldB 2 rfl Try.underlying27 rfl el3 rfl rfl) ?_
        refine gl_un rfl rfl rfl rfl ?_
        refine gl_op rfl rfl rfl (op_loadB 0 hT hS rfl rfl rfl rfl rfl rfl) ?_
        refine gl_un rfl rfl rfl rfl ?_
        refine gl_op rfl rfl rfl (op_pure hT rfl) ?_
        refine gl_op rfl rfl rfl (op_pure hT rfl) ?_
        refine gl_nil ?_
        refine hK3 _ _ ?_
        clear hK3; try clear K3
        refine gc_cond rfl rfl (fun c28 => ?_) (fun c28 => ?_)
        · try simp only [decide_eq_true_eq, decide_eq_false_iff_not, Bool.not_eq_true', Bool.not_eq_false', Int.not_lt, Int.not_le, Nat.not_lt, Nat.not_le, Bool.true_eq, Bool.false_eq, reduceCtorEq] at c28
          refine gc_seq fun K7 hK7 => ?_
          refine gc_region ?_
          refine gl_op rfl rfl rfl (op_pure hT rfl) ?_
          refine gl_nil ?_
          refine hK7 _ _ ?_
          clear hK7; try clear K7
          refine gc_ret ?_
          try simp only [x_then_ret, x_block_ret]
          refine gk_ret1 rfl rfl ?_
          refine ⟨?_, hS.below⟩
          first
            | (rw [show atV v s cc y x = 0 by unfold atV; exact if_pos (by omega)]; done)
            | (rw [show atV v s cc y x = v.getD ((cc * s.h + y) * s.w + x).toNat 0 by unfold atV; exact if_neg (by omega)]; done)
            | trace_state
        · try simp only [decide_eq_true_eq, decide_eq_false_iff_not, Bool.not_eq_true', Bool.not_eq_false', Int.not_lt, Int.not_le, Nat.not_lt, Nat.not_le, Bool.true_eq, Bool.false_eq, reduceCtorEq] at c28
          have hp := place_bd (s := s) (p := ⟨cc, y, x⟩) hc ⟨by show 0 ≤ y; omega, by show y < s.h; omega⟩ ⟨by show 0 ≤ x; omega, by show x < s.w; omega⟩
          have hpl : placeV s ⟨cc, y, x⟩ = (cc * s.h + y) * s.w + x := rfl
          have q1 := mul_bd0 (a := cc) (b := s.h) (A := 256) (B := 256) (by omega) (by omega) (by omega) (by omega)
          have q2 := mul_bd0 (a := cc * s.h + y) (b := s.w) (A := 65792) (B := 256) (by omega) (by omega) (by omega) (by omega)
          obtain ⟨ad, hA, hcl⟩ := hv.at 0 (i := (cc * s.h + y) * s.w + x) (by omega) (by omega)
          refine gc_skip ?_
          refine hK2 _ _ ?_
          clear hK2; try clear K2
          refine gc_seq fun K8 hK8 => ?_
          refine gc_region ?_
          refine gl_op rfl rfl rfl (op_pure hT rfl) ?_
          refine gl_op rfl rfl rfl (op_pure hT rfl) ?_
          refine gl_op rfl rfl rfl (op_fieldB 1 rfl Try.underlying27 rfl el3 rfl rfl) ?_
          refine gl_op rfl rfl rfl (op_loadB 0 hT hS rfl rfl rfl rfl rfl rfl) ?_
          first | refine gl_fit hT rfl rfl rfl rfl (by omega) ?_ | refine gl_op rfl rfl rfl (op_pure hT rfl) ?_
          refine gl_op rfl rfl rfl (op_pure hT rfl) ?_
          first | refine gl_fit hT rfl rfl rfl rfl (by omega) ?_ | refine gl_op rfl rfl rfl (op_pure hT rfl) ?_
          refine gl_op rfl rfl rfl (op_fieldB 2 rfl Try.underlying27 rfl el3 rfl rfl) ?_
          refine gl_op rfl rfl rfl (op_loadB 0 hT hS rfl rfl rfl rfl rfl rfl) ?_
          first | refine gl_fit hT rfl rfl rfl rfl (by omega) ?_ | refine gl_op rfl rfl rfl (op_pure hT rfl) ?_
          refine gl_op rfl rfl rfl (op_pure hT rfl) ?_
          first | refine gl_fit hT rfl rfl rfl rfl (by omega) ?_ | refine gl_op rfl rfl rfl (op_pure hT rfl) ?_
          refine gl_op rfl rfl rfl (op_indexAddr hT rfl rfl el3.cellsOf.1 el3.cellsOf.2 rfl rfl (by omega) (by omega) hA) ?_
          refine gl_op rfl rfl rfl (op_load hT rfl rfl rfl rfl (cellOf hS.below hcl)) ?_
          refine gl_op rfl rfl rfl (op_pure hT rfl) ?_
          refine gl_nil ?_
          refine hK8 _ _ ?_
          clear hK8; try clear K8
          refine gc_ret ?_
          try simp only [x_then_ret, x_block_ret]
          refine gk_ret1 rfl rfl ?_
          refine ⟨?_, hS.below⟩
          first
            | (rw [show atV v s cc y x = 0 by unfold atV; exact if_pos (by omega)]; done)
            | (rw [show atV v s cc y x = v.getD ((cc * s.h + y) * s.w + x).toNat 0 by unfold atV; exact if_neg (by omega)]; done)
            | trace_state
/-- What the statement's own window asks. -/
structure LwOk (L : Ly) (lw lb : List Nat) (s : Sh) (v : List Int) (o : Sp) : Prop where
  k : L.k = 2 ∨ L.k = 4
  hs : ¬ szBad s
  hw : (1 ≤ L.kh ∧ L.kh ≤ 16) ∧ (1 ≤ L.kw ∧ L.kw ≤ 16) ∧ (1 ≤ L.sh ∧ L.sh ≤ 16) ∧ (1 ≤ L.sw ∧ L.sw ≤ 16) ∧ (0 ≤ L.ph ∧ L.ph ≤ L.kh - 1) ∧ (0 ≤ L.pw ∧ L.pw ≤ L.kw - 1)
  o1 : 0 ≤ o.c ∧ o.c < 256
  o2 : 0 ≤ o.y ∧ o.y ≤ 256
  o3 : 0 ≤ o.x ∧ o.x ≤ 256
  sw : smL lw
  sb : smL lb
  sa : sm L.a
  sv : Sml v
  vl : (v.length : Int) = s.c * s.h * s.w
  o4 : L.k = 4 → o.c < s.c
  o5 : L.k = 2 → o.c < L.out ∧ (lw.length : Int) = L.out * s.c * L.kh * L.kw ∧ (lb.length : Int) = L.out
def tqV (L : Ly) (lw : List Nat) (s : Sh) (v : List Int) (o : Sp) (p q : Nat) : Int := if L.k = 4 then mnT L s v o p q else sumN (fun c => cvT L lw s v o c p q) s.c.toNat
def tpV (L : Ly) (lw : List Nat) (s : Sh) (v : List Int) (o : Sp) (p : Nat) : Int := sumN (fun q => tqV L lw s v o p q) L.kw.toNat
theorem winS_eq (L : Ly) (lw lb : List Nat) (s : Sh) (v : List Int) (o : Sp) : winS L lw lb s v o = if L.k = 4 then sumN (fun p => tpV L lw s v o p) L.kh.toNat else sumN (fun p => tpV L lw s v o p) L.kh.toNat + iF (lb.getD o.c.toNat 0) := by
  unfold winS tpV tqV
  by_cases h : L.k = 4
  · rw [if_pos h, if_pos h]; simp only [if_pos h]
  · rw [if_neg h, if_neg h]; simp only [if_neg h]
section
variable {L : Ly} {lw lb : List Nat} {s : Sh} {v : List Int} {o : Sp}
theorem LwOk.cv (h : LwOk L lw lb s v o) (c p q : Nat) : -81 ≤ cvT L lw s v o c p q ∧ cvT L lw s v o c p q ≤ 81 := by
  unfold cvT; exact mul9 (h.sw.at _).two.toI.2 (atV_bd h.sv _ _ _ _)
theorem LwOk.mn (h : LwOk L lw lb s v o) (p q : Nat) : -81 ≤ mnT L s v o p q ∧ mnT L s v o p q ≤ 81 := by
  unfold mnT; exact mul9 h.sa.two.toI.2 (atV_bd h.sv _ _ _ _)
theorem LwOk.cs (h : LwOk L lw lb s v o) (p q : Nat) {n : Nat} (hn : n ≤ 256) : -20736 ≤ sumN (fun c => cvT L lw s v o c p q) n ∧ sumN (fun c => cvT L lw s v o c p q) n ≤ 20736 := by
  have := sumN_abs (g := fun c => cvT L lw s v o c p q) (B := 81) (n := n) fun c _ => h.cv c p q
  omega
theorem LwOk.tq (h : LwOk L lw lb s v o) (p q : Nat) : -20736 ≤ tqV L lw s v o p q ∧ tqV L lw s v o p q ≤ 20736 := by
  have hg := sz_good h.hs
  unfold tqV; split
  · have := h.mn p q; omega
  · exact h.cs p q (by omega)
theorem LwOk.tqs (h : LwOk L lw lb s v o) (p : Nat) {n : Nat} (hn : n ≤ 16) : -331776 ≤ sumN (fun q => tqV L lw s v o p q) n ∧ sumN (fun q => tqV L lw s v o p q) n ≤ 331776 := by
  have := sumN_abs (g := fun q => tqV L lw s v o p q) (B := 20736) (n := n) fun q _ => h.tq p q
  omega
theorem LwOk.tps (h : LwOk L lw lb s v o) {n : Nat} (hn : n ≤ 16) : -5308416 ≤ sumN (fun p => tpV L lw s v o p) n ∧ sumN (fun p => tpV L lw s v o p) n ≤ 5308416 := by
  have hw := h.hw
  have := sumN_abs (g := fun p => tpV L lw s v o p) (B := 331776) (n := n) fun p _ => h.tqs p (n := L.kw.toNat) (by omega)
  omega
end
set_option maxHeartbeats 4000000 in
set_option maxRecDepth 100000 in
theorem lwin_calls (L : Ly) (lw lb : List Nat) (lz lzb : List (Nat × Nat)) (s : Sh) (A : Option Addr) (n c : Nat) (v : List Int) (o : Sp) (w : World) {ok okv : Nat → Prop} (D : LyD w ok L lw lb lz lzb) (hv : RdE w okv nV A v) (hn : n = v.length) (h : LwOk L lw lb s v o) :
    Calls Try.prog 23 ⟨[.agg ⟨lyC L⟩, .agg ⟨shC s⟩, .slice A n c, .int .i64 o.c, .int .i64 o.y, .int .i64 o.x]⟩ w fun e w' => e = .returned (.int .i64 (winS L lw lb s v o)) ∧ Below w.heap.size w w' := by
  subst hn
  have hw := h.hw
  have hg := sz_good h.hs
  have o1 := h.o1
  have o2 := h.o2
  have o3 := h.o3
  obtain ⟨KH, hKH⟩ : ∃ K : Nat, L.kh = (K : Int) := ⟨L.kh.toNat, by omega⟩
  obtain ⟨KW, hKW⟩ : ∃ K : Nat, L.kw = (K : Int) := ⟨L.kw.toNat, by omega⟩
  obtain ⟨C, hC⟩ : ∃ K : Nat, s.c = (K : Int) := ⟨s.c.toNat, by omega⟩
  have bo1 := mul_bd0 (a := o.y) (b := L.sh) (A := 256) (B := 16) (by omega) (by omega) (by omega) (by omega)
  have bo2 := mul_bd0 (a := o.x) (b := L.sw) (A := 256) (B := 16) (by omega) (by omega) (by omega) (by omega)
  have hA2 := h.sa.two.toI
  refine gc_enter (N := 124) Try.func23 rfl rfl rfl [(0, _), (1, _), (2, _), (3, _), (4, _), (5, _)] rfl ?_
  have hS := St.start w
  refine gc_seq fun K1 hK1 => ?_
  refine gc_region ?_
  refine gl_box hS rfl rfl rfl rfl rfl fun g6 w6 hS => ?_
  refine gl_box hS rfl rfl rfl rfl rfl fun g7 w7 hS => ?_
  refine gl_op rfl rfl rfl (op_pure hT rfl) ?_
  refine gl_nil ?_
  refine hK1 _ _ ?_
  clear hK1; try clear K1
  refine gc_seq fun K2 hK2 => ?_
  refine gc_region ?_
  refine gl_op rfl rfl rfl (op_pure hT rfl) ?_
  refine gl_nil ?_
  refine hK2 _ _ ?_
  clear hK2; try clear K2
  refine gc_seq fun K3 hK3 => ?_
  refine gc_seq fun K4 hK4 => ?_
  refine gc_region ?_
  refine gl_op rfl rfl rfl (op_pure hT rfl) ?_
  refine gl_nil ?_
  refine hK4 _ _ ?_
  clear hK4; try clear K4
  refine gc_block ?_
  refine gc_loop (fun kk a w' => ∃ (p : Nat), Fr 124 a [(2, .slice A v.length c), (3, .int .i64 o.c), (4, .int .i64 o.y), (5, .int .i64 o.x), (6, .pointer (some ⟨g6, 0, none⟩)), (7, .pointer (some ⟨g7, 0, none⟩)), (13, .int .i64 (sumN (fun p => tpV L lw s v o p) p)), (14, .int .i64 (p : Nat))] ∧ p ≤ KH ∧ kk = KH + 1 - p ∧
    St w.heap.size w w' [.blk g6 32 (lyC L), .blk g7 27 (shC s)]) (KH + 1) ?_ ?_ ?_
  · intro a ha; exact ⟨0, ha.sub ⟨rfl, rfl, rfl, rfl, rfl, rfl, rfl, rfl, trivial⟩, by omega, by omega, hS⟩
  · rintro a w' ⟨p, _, h1, h2, _⟩; omega
  rintro kk a w1 ⟨p, hF, hp, hk, hS⟩
  refine gc_of hF ?_
  clear hF
  have hps := h.tps (n := p) (by omega)
  refine gc_seq fun K5 hK5 => ?_
  refine gc_seq fun K6 hK6 => ?_
  refine gc_region ?_
  refine gl_op rfl rfl rfl (op_pure hT rfl) ?_
  refine gl_op rfl rfl rfl (op_fieldB 2 rfl Try.underlying32 rfl el3 rfl rfl) ?_
  refine gl_op rfl rfl rfl (op_loadB 0 hT hS rfl rfl rfl rfl rfl rfl) ?_
  refine gl_op rfl rfl rfl (op_pure hT rfl) ?_
  refine gl_nil ?_
  refine hK6 _ _ ?_
  clear hK6; try clear K6
  refine gc_cond rfl rfl (fun c20 => ?_) (fun c20 => ?_)
  · try simp only [decide_eq_true_eq, decide_eq_false_iff_not, Bool.not_eq_true', Bool.not_eq_false', Int.not_lt, Int.not_le, Nat.not_lt, Nat.not_le, Bool.true_eq, Bool.false_eq, reduceCtorEq] at c20
    refine gc_skip ?_
    refine hK5 _ _ ?_
    clear hK5; try clear K5
    refine gc_seq fun K7 hK7 => ?_
    refine gc_block ?_
    refine gc_seq fun K8 hK8 => ?_
    refine gc_region ?_
    refine gl_op rfl rfl rfl (op_pure hT rfl) ?_
    refine gl_nil ?_
    refine hK8 _ _ ?_
    clear hK8; try clear K8
    refine gc_block ?_
    refine gc_loop (fun kk a w' => ∃ (q : Nat), Fr 124 a [(2, .slice A v.length c), (3, .int .i64 o.c), (4, .int .i64 o.y), (5, .int .i64 o.x), (6, .pointer (some ⟨g6, 0, none⟩)), (7, .pointer (some ⟨g7, 0, none⟩)), (13, .int .i64 (sumN (fun p => tpV L lw s v o p) p + sumN (fun q => tqV L lw s v o p q) q)), (14, .int .i64 (p : Nat)), (15, .int .i64 (q : Nat))] ∧ q ≤ KW ∧ kk = KW + 1 - q ∧
      St w.heap.size w w' [.blk g6 32 (lyC L), .blk g7 27 (shC s)]) (KW + 1) ?_ ?_ ?_
    · intro a ha; exact ⟨0, ha.sub ⟨rfl, rfl, rfl, rfl, rfl, rfl, congrArg some (congrArg (Value.int .i64) (Int.add_zero _).symm), rfl, rfl, trivial⟩, by omega, by omega, hS⟩
    · rintro a w' ⟨p, _, h1, h2, _⟩; omega
    rintro kk a w1 ⟨q, hF, hq, hk, hS⟩
    refine gc_of hF ?_
    clear hF
    have hqs := h.tqs p (n := q) (by omega)
    refine gc_seq fun K9 hK9 => ?_
    refine gc_seq fun K10 hK10 => ?_
    refine gc_region ?_
    refine gl_op rfl rfl rfl (op_pure hT rfl) ?_
    refine gl_op rfl rfl rfl (op_fieldB 3 rfl Try.underlying32 rfl el3 rfl rfl) ?_
    refine gl_op rfl rfl rfl (op_loadB 0 hT hS rfl rfl rfl rfl rfl rfl) ?_
    refine gl_op rfl rfl rfl (op_pure hT rfl) ?_
    refine gl_nil ?_
    refine hK10 _ _ ?_
    clear hK10; try clear K10
    refine gc_cond rfl rfl (fun c26 => ?_) (fun c26 => ?_)
    · try simp only [decide_eq_true_eq, decide_eq_false_iff_not, Bool.not_eq_true', Bool.not_eq_false', Int.not_lt, Int.not_le, Nat.not_lt, Nat.not_le, Bool.true_eq, Bool.false_eq, reduceCtorEq] at c26
      refine gc_skip ?_
      refine hK9 _ _ ?_
      clear hK9; try clear K9
      refine gc_seq fun K11 hK11 => ?_
      refine gc_block ?_
      refine gc_seq fun K12 hK12 => ?_
      refine gc_seq fun K13 hK13 => ?_
      refine gc_region ?_
      refine gl_op rfl rfl rfl (op_fieldB 0 rfl Try.underlying32 rfl el3 rfl rfl) ?_
      refine gl_op rfl rfl rfl (op_loadB 0 hT hS rfl rfl rfl rfl rfl rfl) ?_
      refine gl_op rfl rfl rfl (op_pure hT rfl) ?_
      refine gl_nil ?_
      refine hK13 _ _ ?_
      clear hK13; try clear K13
      refine gc_cond rfl rfl (fun c31 => ?_) (fun c31 => ?_)
      · try simp only [decide_eq_true_eq, decide_eq_false_iff_not, Bool.not_eq_true', Bool.not_eq_false', Int.not_lt, Int.not_le, Nat.not_lt, Nat.not_le, Bool.true_eq, Bool.false_eq, reduceCtorEq] at c31
        refine gc_seq fun K14 hK14 => ?_
        refine gc_anyS hS (by kernel_rfl) rfl fun nq9 hK => ?_
        have hS := hS.dr nq9
        have ho4 := h.o4 c31
        have hmn := h.mn p q
        unfold mnT at hmn
        have htq : tqV L lw s v o p q = mnT L s v o p q := by unfold tqV; exact if_pos c31
        refine ga_take 0 rfl rfl rfl rfl (by kernel_rfl) (fun _ _ _ _ _ h => h) hK (fun w1 hS => op_pure hT rfl) ?_
        refine ga_take 1 rfl rfl rfl rfl (by kernel_rfl) (fun _ _ _ _ _ h => h) hK (fun w1 hS => op_fieldB 9 rfl Try.underlying32 rfl el28 rfl rfl) ?_
        refine ga_take 2 rfl rfl rfl rfl (by kernel_rfl) (fun _ _ _ _ _ h => h) hK (fun w1 hS => op_loadB 0 hT hS rfl rfl rfl rfl rfl rfl) ?_
        refine ga_take 3 rfl rfl rfl rfl (by kernel_rfl) (fun _ _ _ _ _ h => h) hK (fun w1 hS => op_f2i hT rfl rfl rfl rfl hA2.1 (by omega)) ?_
        refine ga_take 4 rfl rfl rfl rfl (by kernel_rfl) (fun _ _ _ _ _ h => h) hK (fun w1 hS => op_pure hT rfl) ?_
        refine ga_take 5 rfl rfl rfl rfl (by kernel_rfl) (fun _ _ _ _ _ h => h) hK (fun w1 hS => op_loadG 1 Try.underlying27 rfl el27 hS rfl rfl rfl rfl rfl) ?_
        refine ga_take 6 rfl rfl rfl rfl (by kernel_rfl) (fun _ _ _ _ _ h => h) hK (fun w1 hS => op_pure hT rfl) ?_
        refine ga_take 7 rfl rfl rfl rfl (by kernel_rfl) (fun _ _ _ _ _ h => h) hK (fun w1 hS => op_pure hT rfl) ?_
        refine ga_take 8 rfl rfl rfl rfl (by kernel_rfl) (fun _ _ _ _ _ h => h) hK (fun w1 hS => op_fieldB 4 rfl Try.underlying32 rfl el3 rfl rfl) ?_
        refine ga_take 9 rfl rfl rfl rfl (by kernel_rfl) (fun _ _ _ _ _ h => h) hK (fun w1 hS => op_loadB 0 hT hS rfl rfl rfl rfl rfl rfl) ?_
        refine ga_take 10 rfl rfl rfl rfl (by kernel_rfl) (fun _ _ _ _ _ h => h) hK (fun w1 hS => (by first | exact op_fit hT rfl (by omega) | exact op_pure hT rfl)) ?_
        refine ga_take 11 rfl rfl rfl rfl (by kernel_rfl) (fun _ _ _ _ _ h => h) hK (fun w1 hS => op_fieldB 6 rfl Try.underlying32 rfl el3 rfl rfl) ?_
        refine ga_take 12 rfl rfl rfl rfl (by kernel_rfl) (fun _ _ _ _ _ h => h) hK (fun w1 hS => op_loadB 0 hT hS rfl rfl rfl rfl rfl rfl) ?_
        refine ga_take 13 rfl rfl rfl rfl (by kernel_rfl) (fun _ _ _ _ _ h => h) hK (fun w1 hS => (by first | exact op_fit hT rfl (by omega) | exact op_pure hT rfl)) ?_
        refine ga_take 14 rfl rfl rfl rfl (by kernel_rfl) (fun _ _ _ _ _ h => h) hK (fun w1 hS => op_pure hT rfl) ?_
        refine ga_take 15 rfl rfl rfl rfl (by kernel_rfl) (fun _ _ _ _ _ h => h) hK (fun w1 hS => (by first | exact op_fit hT rfl (by omega) | exact op_pure hT rfl)) ?_
        refine ga_take 16 rfl rfl rfl rfl (by kernel_rfl) (fun _ _ _ _ _ h => h) hK (fun w1 hS => op_pure hT rfl) ?_
        refine ga_take 17 rfl rfl rfl rfl (by kernel_rfl) (fun _ _ _ _ _ h => h) hK (fun w1 hS => op_fieldB 5 rfl Try.underlying32 rfl el3 rfl rfl) ?_
        refine ga_take 18 rfl rfl rfl rfl (by kernel_rfl) (fun _ _ _ _ _ h => h) hK (fun w1 hS => op_loadB 0 hT hS rfl rfl rfl rfl rfl rfl) ?_
        refine ga_take 19 rfl rfl rfl rfl (by kernel_rfl) (fun _ _ _ _ _ h => h) hK (fun w1 hS => (by first | exact op_fit hT rfl (by omega) | exact op_pure hT rfl)) ?_
        refine ga_take 20 rfl rfl rfl rfl (by kernel_rfl) (fun _ _ _ _ _ h => h) hK (fun w1 hS => op_fieldB 7 rfl Try.underlying32 rfl el3 rfl rfl) ?_
        refine ga_take 21 rfl rfl rfl rfl (by kernel_rfl) (fun _ _ _ _ _ h => h) hK (fun w1 hS => op_loadB 0 hT hS rfl rfl rfl rfl rfl rfl) ?_
        refine ga_take 22 rfl rfl rfl rfl (by kernel_rfl) (fun _ _ _ _ _ h => h) hK (fun w1 hS => (by first | exact op_fit hT rfl (by omega) | exact op_pure hT rfl)) ?_
        refine ga_take 23 rfl rfl rfl rfl (by kernel_rfl) (fun _ _ _ _ _ h => h) hK (fun w1 hS => op_pure hT rfl) ?_
        refine ga_take 24 rfl rfl rfl rfl (by kernel_rfl) (fun _ _ _ _ _ h => h) hK (fun w1 hS => (by first | exact op_fit hT rfl (by omega) | exact op_pure hT rfl)) ?_
        refine ga_one 25 (by kernel_rfl) rfl ?_
        refine gl_callf rfl rfl rfl rfl Try.func39 rfl rfl rfl (at_calls A _ _ v s o.c _ _ _ (hv.old hS) rfl h.hs h.vl ⟨by omega, by omega⟩) ?_
        rintro _ w57 ⟨rfl, hb57⟩
        refine ⟨_, rfl, ?_⟩
        have hS := hS.grown hb57
        refine gl_nil ?_
        refine ga_next (hS.pre 2) fun hK => ?_
        refine ga_take 26 rfl rfl rfl rfl (by kernel_rfl) (fun _ _ _ _ _ h => h) hK (fun w1 hS => (by first | exact op_fit hT rfl (by omega) | exact op_pure hT rfl)) ?_
        refine ga_take 27 rfl rfl rfl rfl (by kernel_rfl) (fun _ _ _ _ _ h => h) hK (fun w1 hS => (by first | exact op_fit hT rfl (by omega) | exact op_pure hT rfl)) ?_
        refine ga_spell 59 (v := .int .i64 (sumN (fun p => tpV L lw s v o p) p + sumN (fun q => tqV L lw s v o p q) (q + 1))) rfl (by show _ = Value.int .i64 (_ + (_ + tqV L lw s v o p q)); rw [htq, ← Int.add_assoc]; rfl) ?_
        refine ga_take 28 rfl rfl rfl rfl (by kernel_rfl) (fun _ _ _ _ _ h => h) hK (fun w1 hS => op_pure hT rfl) ?_
        refine ga_done (by kernel_rfl) ?_
        refine hK14 _ _ ?_
        clear hK14; try clear K14
        refine gc_exit ?_
        refine hK11 _ _ ?_
        clear hK11; try clear K11
        refine gc_region ?_
        refine gl_op rfl rfl rfl (op_pure hT rfl) ?_
        first | refine gl_fit hT rfl rfl rfl rfl (by omega) ?_ | refine gl_op rfl rfl rfl (op_pure hT rfl) ?_
        refine gl_op rfl rfl rfl (op_pure hT rfl) ?_
        refine gl_nil ?_
        intro a ha
        first
          | exact ⟨q + 1, ha.sub ⟨rfl, rfl, rfl, rfl, rfl, rfl, rfl, rfl, rfl, trivial⟩, by omega, by omega, hS⟩
          | exact ⟨q + 1, ha.sub ⟨rfl, rfl, rfl, rfl, rfl, rfl, congrArg some (congrArg (Value.int .i64) (by show _ = _ + (_ + tqV L lw s v o p q); rw [htq, Int.add_assoc])), rfl, rfl, trivial⟩, by omega, by omega, hS⟩
          | (trace_state; sorry)
      · try simp only [decide_eq_true_eq, decide_eq_false_iff_not, Bool.not_eq_true', Bool.not_eq_false', Int.not_lt, Int.not_le, Nat.not_lt, Nat.not_le, Bool.true_eq, Bool.false_eq, reduceCtorEq] at c31
        refine gc_skip ?_
        refine hK12 _ _ ?_
        clear hK12; try clear K12
        refine gc_seq fun K15 hK15 => ?_
        refine gc_region ?_
        refine gl_op rfl rfl rfl (op_pure hT rfl) ?_
        refine gl_nil ?_
        refine hK15 _ _ ?_
        clear hK15; try clear K15
        refine gc_block ?_
        have hk2 : L.k = 2 := by have := h.k; omega
        have ho5 := h.o5 hk2
        have htq : tqV L lw s v o p q = sumN (fun c => cvT L lw s v o c p q) s.c.toNat := by unfold tqV; exact if_neg c31
        refine gc_loop (fun kk a w' => ∃ (m : Nat), Fr 124 a [(2, .slice A v.length c), (3, .int .i64 o.c), (4, .int .i64 o.y), (5, .int .i64 o.x), (6, .pointer (some ⟨g6, 0, none⟩)), (7, .pointer (some ⟨g7, 0, none⟩)), (13, .int .i64 (sumN (fun p => tpV L lw s v o p) p + sumN (fun q => tqV L lw s v o p q) q + sumN (fun c => cvT L lw s v o c p q) m)), (14, .int .i64 (p : Nat)), (15, .int .i64 (q : Nat)), (16, .int .i64 (m : Nat))] ∧ m ≤ C ∧ kk = C + 1 - m ∧
          St w.heap.size w w' [.blk g6 32 (lyC L), .blk g7 27 (shC s)]) (C + 1) ?_ ?_ ?_
        · intro a ha; exact ⟨0, ha.sub ⟨rfl, rfl, rfl, rfl, rfl, rfl, congrArg some (congrArg (Value.int .i64) (Int.add_zero _).symm), rfl, rfl, rfl, trivial⟩, by omega, by omega, hS⟩
        · rintro a w' ⟨p, _, h1, h2, _⟩; omega
        rintro kk a w1 ⟨m, hF, hm, hk, hS⟩
        refine gc_of hF ?_
        clear hF
        have hcs := h.cs p q (n := m) (by omega)
        refine gc_seq fun K16 hK16 => ?_
        refine gc_seq fun K17 hK17 => ?_
        refine gc_region ?_
        refine gl_op rfl rfl rfl (op_pure hT rfl) ?_
        refine gl_op rfl rfl rfl (op_fieldB 0 rfl Try.underlying27 rfl el3 rfl rfl) ?_
        refine gl_op rfl rfl rfl (op_loadB 1 hT hS rfl rfl rfl rfl rfl rfl) ?_
        refine gl_op rfl rfl rfl (op_pure hT rfl) ?_
        refine gl_nil ?_
        refine hK17 _ _ ?_
        clear hK17; try clear K17
        refine gc_cond rfl rfl (fun c63 => ?_) (fun c63 => ?_)
        · try simp only [decide_eq_true_eq, decide_eq_false_iff_not, Bool.not_eq_true', Bool.not_eq_false', Int.not_lt, Int.not_le, Nat.not_lt, Nat.not_le, Bool.true_eq, Bool.false_eq, reduceCtorEq] at c63
          refine gc_skip ?_
          refine hK16 _ _ ?_
          clear hK16; try clear K16
          refine gc_seq fun K18 hK18 => ?_
          refine gc_block ?_
          refine gc_anyS hS (by kernel_rfl) rfl fun nq13 hK => ?_
          have hS := hS.dr nq13
          have hcv := h.cv m p q
          unfold cvT at hcv
          have q1 := ix_bd (a := o.c) (A := L.out) (b := (m : Int)) (B := s.c) (by omega) (by omega) (by omega) (by omega)
          have q2 := ix_bd (a := o.c * s.c + m) (A := L.out * s.c) (b := (p : Int)) (B := L.kh) (by omega) (by omega) (by omega) (by omega)
          have q3 := ix_bd (a := (o.c * s.c + m) * L.kh + p) (A := L.out * s.c * L.kh) (b := (q : Int)) (B := L.kw) (by omega) (by omega) (by omega) (by omega)
          have r3 := mul_bd0 (a := o.c) (b := s.c) (A := 256) (B := 256) (by omega) (by omega) (by omega) (by omega)
          have r4 := mul_bd0 (a := o.c * s.c + m) (b := L.kh) (A := 66000) (B := 16) (by omega) (by omega) (by omega) (by omega)
          have r5 := mul_bd0 (a := (o.c * s.c + m) * L.kh + p) (b := L.kw) (A := 1060000) (B := 16) (by omega) (by omega) (by omega) (by omega)
          obtain ⟨ad, hAd, hcl⟩ := D.rW.at 0 (i := ((o.c * s.c + m) * L.kh + p) * L.kw + q) (by omega) (by omega)
          have hWl := D.nW
          have hcI := (h.sw.at (((o.c * s.c + m) * L.kh + p) * L.kw + q).toNat).two.toI
          refine ga_take 0 rfl rfl rfl rfl (by kernel_rfl) (fun _ _ _ _ _ h => h) hK (fun w1 hS => op_pure hT rfl) ?_
          refine ga_take 1 rfl rfl rfl rfl (by kernel_rfl) (fun _ _ _ _ _ h => h) hK (fun w1 hS => op_fieldB 10 rfl Try.underlying32 rfl el29 rfl rfl) ?_
          refine ga_take 2 rfl rfl rfl rfl (by kernel_rfl) (fun _ _ _ _ _ h => h) hK (fun w1 hS => op_loadB 0 hT hS rfl rfl rfl rfl rfl rfl) ?_
          refine ga_take 3 rfl rfl rfl rfl (by kernel_rfl) (fun _ _ _ _ _ h => h) hK (fun w1 hS => op_pure hT rfl) ?_
          refine ga_take 4 rfl rfl rfl rfl (by kernel_rfl) (fun _ _ _ _ _ h => h) hK (fun w1 hS => op_fieldB 0 rfl Try.underlying27 rfl el3 rfl rfl) ?_
          refine ga_take 5 rfl rfl rfl rfl (by kernel_rfl) (fun _ _ _ _ _ h => h) hK (fun w1 hS => op_loadB 1 hT hS rfl rfl rfl rfl rfl rfl) ?_
          refine ga_take 6 rfl rfl rfl rfl (by kernel_rfl) (fun _ _ _ _ _ h => h) hK (fun w1 hS => (by first | exact op_fit hT rfl (by omega) | exact op_pure hT rfl)) ?_
          refine ga_take 7 rfl rfl rfl rfl (by kernel_rfl) (fun _ _ _ _ _ h => h) hK (fun w1 hS => op_pure hT rfl) ?_
          refine ga_take 8 rfl rfl rfl rfl (by kernel_rfl) (fun _ _ _ _ _ h => h) hK (fun w1 hS => (by first | exact op_fit hT rfl (by omega) | exact op_pure hT rfl)) ?_
          refine ga_take 9 rfl rfl rfl rfl (by kernel_rfl) (fun _ _ _ _ _ h => h) hK (fun w1 hS => op_fieldB 2 rfl Try.underlying32 rfl el3 rfl rfl) ?_
          refine ga_take 10 rfl rfl rfl rfl (by kernel_rfl) (fun _ _ _ _ _ h => h) hK (fun w1 hS => op_loadB 0 hT hS rfl rfl rfl rfl rfl rfl) ?_
          refine ga_take 11 rfl rfl rfl rfl (by kernel_rfl) (fun _ _ _ _ _ h => h) hK (fun w1 hS => (by first | exact op_fit hT rfl (by omega) | exact op_pure hT rfl)) ?_
          refine ga_take 12 rfl rfl rfl rfl (by kernel_rfl) (fun _ _ _ _ _ h => h) hK (fun w1 hS => op_pure hT rfl) ?_
          refine ga_take 13 rfl rfl rfl rfl (by kernel_rfl) (fun _ _ _ _ _ h => h) hK (fun w1 hS => (by first | exact op_fit hT rfl (by omega) | exact op_pure hT rfl)) ?_
          refine ga_take 14 rfl rfl rfl rfl (by kernel_rfl) (fun _ _ _ _ _ h => h) hK (fun w1 hS => op_fieldB 3 rfl Try.underlying32 rfl el3 rfl rfl) ?_
          refine ga_take 15 rfl rfl rfl rfl (by kernel_rfl) (fun _ _ _ _ _ h => h) hK (fun w1 hS => op_loadB 0 hT hS rfl rfl rfl rfl rfl rfl) ?_
          refine ga_take 16 rfl rfl rfl rfl (by kernel_rfl) (fun _ _ _ _ _ h => h) hK (fun w1 hS => (by first | exact op_fit hT rfl (by omega) | exact op_pure hT rfl)) ?_
          refine ga_take 17 rfl rfl rfl rfl (by kernel_rfl) (fun _ _ _ _ _ h => h) hK (fun w1 hS => op_pure hT rfl) ?_
          refine ga_take 18 rfl rfl rfl rfl (by kernel_rfl) (fun _ _ _ _ _ h => h) hK (fun w1 hS => (by first | exact op_fit hT rfl (by omega) | exact op_pure hT rfl)) ?_
          refine ga_take 19 rfl rfl rfl rfl (by kernel_rfl) (fun _ _ _ _ _ h => h) hK (fun w1 hS => op_indexAddr hT rfl rfl el28.cellsOf.1 el28.cellsOf.2 rfl rfl (by omega) (by omega) hAd) ?_
          refine ga_take 20 rfl rfl rfl rfl (by kernel_rfl) (fun _ _ _ _ _ h => h) hK (fun w1 hS => op_load hT rfl rfl rfl rfl (cellOf hS.below hcl)) ?_
          refine ga_take 21 rfl rfl rfl rfl (by kernel_rfl) (fun _ _ _ _ _ h => h) hK (fun w1 hS => op_f2i hT rfl rfl rfl rfl hcI.1 (by omega)) ?_
          refine ga_take 22 rfl rfl rfl rfl (by kernel_rfl) (fun _ _ _ _ _ h => h) hK (fun w1 hS => op_pure hT rfl) ?_
          refine ga_take 23 rfl rfl rfl rfl (by kernel_rfl) (fun _ _ _ _ _ h => h) hK (fun w1 hS => op_loadG 1 Try.underlying27 rfl el27 hS rfl rfl rfl rfl rfl) ?_
          refine ga_take 24 rfl rfl rfl rfl (by kernel_rfl) (fun _ _ _ _ _ h => h) hK (fun w1 hS => op_pure hT rfl) ?_
          refine ga_take 25 rfl rfl rfl rfl (by kernel_rfl) (fun _ _ _ _ _ h => h) hK (fun w1 hS => op_pure hT rfl) ?_
          refine ga_take 26 rfl rfl rfl rfl (by kernel_rfl) (fun _ _ _ _ _ h => h) hK (fun w1 hS => op_fieldB 4 rfl Try.underlying32 rfl el3 rfl rfl) ?_
          refine ga_take 27 rfl rfl rfl rfl (by kernel_rfl) (fun _ _ _ _ _ h => h) hK (fun w1 hS => op_loadB 0 hT hS rfl rfl rfl rfl rfl rfl) ?_
          refine ga_take 28 rfl rfl rfl rfl (by kernel_rfl) (fun _ _ _ _ _ h => h) hK (fun w1 hS => (by first | exact op_fit hT rfl (by omega) | exact op_pure hT rfl)) ?_
          refine ga_take 29 rfl rfl rfl rfl (by kernel_rfl) (fun _ _ _ _ _ h => h) hK (fun w1 hS => op_fieldB 6 rfl Try.underlying32 rfl el3 rfl rfl) ?_
          refine ga_take 30 rfl rfl rfl rfl (by kernel_rfl) (fun _ _ _ _ _ h => h) hK (fun w1 hS => op_loadB 0 hT hS rfl rfl rfl rfl rfl rfl) ?_
          refine ga_take 31 rfl rfl rfl rfl (by kernel_rfl) (fun _ _ _ _ _ h => h) hK (fun w1 hS => (by first | exact op_fit hT rfl (by omega) | exact op_pure hT rfl)) ?_
          refine ga_take 32 rfl rfl rfl rfl (by kernel_rfl) (fun _ _ _ _ _ h => h) hK (fun w1 hS => op_pure hT rfl) ?_
          refine ga_take 33 rfl rfl rfl rfl (by kernel_rfl) (fun _ _ _ _ _ h => h) hK (fun w1 hS => (by first | exact op_fit hT rfl (by omega) | exact op_pure hT rfl)) ?_
          refine ga_take 34 rfl rfl rfl rfl (by kernel_rfl) (fun _ _ _ _ _ h => h) hK (fun w1 hS => op_pure hT rfl) ?_
          refine ga_take 35 rfl rfl rfl rfl (by kernel_rfl) (fun _ _ _ _ _ h => h) hK (fun w1 hS => op_fieldB 5 rfl Try.underlying32 rfl el3 rfl rfl) ?_
          refine ga_take 36 rfl rfl rfl rfl (by kernel_rfl) (fun _ _ _ _ _ h => h) hK (fun w1 hS => op_loadB 0 hT hS rfl rfl rfl rfl rfl rfl) ?_
          refine ga_take 37 rfl rfl rfl rfl (by kernel_rfl) (fun _ _ _ _ _ h => h) hK (fun w1 hS => (by first | exact op_fit hT rfl (by omega) | exact op_pure hT rfl)) ?_
          refine ga_take 38 rfl rfl rfl rfl (by kernel_rfl) (fun _ _ _ _ _ h => h) hK (fun w1 hS => op_fieldB 7 rfl Try.underlying32 rfl el3 rfl rfl) ?_
          refine ga_take 39 rfl rfl rfl rfl (by kernel_rfl) (fun _ _ _ _ _ h => h) hK (fun w1 hS => op_loadB 0 hT hS rfl rfl rfl rfl rfl rfl) ?_
          refine ga_take 40 rfl rfl rfl rfl (by kernel_rfl) (fun _ _ _ _ _ h => h) hK (fun w1 hS => (by first | exact op_fit hT rfl (by omega) | exact op_pure hT rfl)) ?_
          refine ga_take 41 rfl rfl rfl rfl (by kernel_rfl) (fun _ _ _ _ _ h => h) hK (fun w1 hS => op_pure hT rfl) ?_
          refine ga_take 42 rfl rfl rfl rfl (by kernel_rfl) (fun _ _ _ _ _ h => h) hK (fun w1 hS => (by first | exact op_fit hT rfl (by omega) | exact op_pure hT rfl)) ?_
          refine ga_one 43 (by kernel_rfl) rfl ?_
          refine gl_callf rfl rfl rfl rfl Try.func39 rfl rfl rfl (at_calls A _ _ v s m _ _ _ (hv.old hS) rfl h.hs h.vl ⟨by omega, by omega⟩) ?_
          rintro _ w109 ⟨rfl, hb109⟩
          refine ⟨_, rfl, ?_⟩
          have hS := hS.grown hb109
          refine gl_nil ?_
          refine ga_next (hS.pre 2) fun hK => ?_
          refine ga_take 44 rfl rfl rfl rfl (by kernel_rfl) (fun _ _ _ _ _ h => h) hK (fun w1 hS => (by first | exact op_fit hT rfl (by omega) | exact op_pure hT rfl)) ?_
          refine ga_take 45 rfl rfl rfl rfl (by kernel_rfl) (fun _ _ _ _ _ h => h) hK (fun w1 hS => (by first | exact op_fit hT rfl (by omega) | exact op_pure hT rfl)) ?_
          refine ga_spell 111 (v := .int .i64 (sumN (fun p => tpV L lw s v o p) p + sumN (fun q => tqV L lw s v o p q) q + sumN (fun c => cvT L lw s v o c p q) (m + 1))) rfl (congrArg (Value.int .i64) (Int.add_assoc _ _ _)) ?_
          refine ga_take 46 rfl rfl rfl rfl (by kernel_rfl) (fun _ _ _ _ _ h => h) hK (fun w1 hS => op_pure hT rfl) ?_
          refine ga_done (by kernel_rfl) ?_
          refine hK18 _ _ ?_
          clear hK18; try clear K18
          refine gc_region ?_
          refine gl_op rfl rfl rfl (op_pure hT rfl) ?_
          first | refine gl_fit hT rfl rfl rfl rfl (by omega) ?_ | refine gl_op rfl rfl rfl (op_pure hT rfl) ?_
          refine gl_op rfl rfl rfl (op_pure hT rfl) ?_
          refine gl_nil ?_
          intro a ha
          exact ⟨m + 1, ha.sub ⟨rfl, rfl, rfl, rfl, rfl, rfl, rfl, rfl, rfl, rfl, trivial⟩, by omega, by omega, hS⟩
        · try simp only [decide_eq_true_eq, decide_eq_false_iff_not, Bool.not_eq_true', Bool.not_eq_false', Int.not_lt, Int.not_le, Nat.not_lt, Nat.not_le, Bool.true_eq, Bool.false_eq, reduceCtorEq] at c63
          have hmC : m = s.c.toNat := by omega
          subst hmC
          refine gc_exit ?_
          refine hK11 _ _ ?_
          clear hK11; try clear K11
          refine gc_region ?_
          refine gl_op rfl rfl rfl (op_pure hT rfl) ?_
          first | refine gl_fit hT rfl rfl rfl rfl (by omega) ?_ | refine gl_op rfl rfl rfl (op_pure hT rfl) ?_
          refine gl_op rfl rfl rfl (op_pure hT rfl) ?_
          refine gl_nil ?_
          intro a ha
          first
            | exact ⟨q + 1, ha.sub ⟨rfl, rfl, rfl, rfl, rfl, rfl, rfl, rfl, rfl, trivial⟩, by omega, by omega, hS⟩
            | exact ⟨q + 1, ha.sub ⟨rfl, rfl, rfl, rfl, rfl, rfl, congrArg some (congrArg (Value.int .i64) (by show _ = _ + (_ + tqV L lw s v o p q); rw [htq, Int.add_assoc])), rfl, rfl, trivial⟩, by omega, by omega, hS⟩
            | (trace_state; sorry)
    · try simp only [decide_eq_true_eq, decide_eq_false_iff_not, Bool.not_eq_true', Bool.not_eq_false', Int.not_lt, Int.not_le, Nat.not_lt, Nat.not_le, Bool.true_eq, Bool.false_eq, reduceCtorEq] at c26
      have hqC : q = L.kw.toNat := by omega
      subst hqC
      refine gc_exit ?_
      refine hK7 _ _ ?_
      clear hK7; try clear K7
      refine gc_region ?_
      refine gl_op rfl rfl rfl (op_pure hT rfl) ?_
      first | refine gl_fit hT rfl rfl rfl rfl (by omega) ?_ | refine gl_op rfl rfl rfl (op_pure hT rfl) ?_
      refine gl_op rfl rfl rfl (op_pure hT rfl) ?_
      refine gl_nil ?_
      intro a ha
      exact ⟨p + 1, ha.sub ⟨rfl, rfl, rfl, rfl, rfl, rfl, rfl, rfl, trivial⟩, by omega, by omega, hS⟩
  · try simp only [decide_eq_true_eq, decide_eq_false_iff_not, Bool.not_eq_true', Bool.not_eq_false', Int.not_lt, Int.not_le, Nat.not_lt, Nat.not_le, Bool.true_eq, Bool.false_eq, reduceCtorEq] at c20
    have hpC : p = L.kh.toNat := by omega
    subst hpC
    refine gc_exit ?_
    refine hK3 _ _ ?_
    clear hK3; try clear K3
    refine gc_seq fun K19 hK19 => ?_
    refine gc_seq fun K20 hK20 => ?_
    refine gc_region ?_
    refine gl_op rfl rfl rfl (op_fieldB 0 rfl Try.underlying32 rfl el3 rfl rfl) ?_
    refine gl_op rfl rfl rfl (op_loadB 0 hT hS rfl rfl rfl rfl rfl rfl) ?_
    refine gl_op rfl rfl rfl (op_pure hT rfl) ?_
    refine gl_nil ?_
    refine hK20 _ _ ?_
    clear hK20; try clear K20
    refine gc_cond rfl rfl (fun c114 => ?_) (fun c114 => ?_)
    · try simp only [decide_eq_true_eq, decide_eq_false_iff_not, Bool.not_eq_true', Bool.not_eq_false', Int.not_lt, Int.not_le, Nat.not_lt, Nat.not_le, Bool.true_eq, Bool.false_eq, reduceCtorEq] at c114
      have ho5 := h.o5 c114
      have hBl := D.nB
      obtain ⟨adB, hAB, hcB⟩ := D.rB.at 0 (i := o.c) (by omega) (by omega)
      have hbI := (h.sb.at o.c.toNat).two.toI
      refine gc_region ?_
      refine gl_op rfl rfl rfl (op_pure hT rfl) ?_
      refine gl_op rfl rfl rfl (op_fieldB 11 rfl Try.underlying32 rfl el29 rfl rfl) ?_
      refine gl_op rfl rfl rfl (op_loadB 0 hT hS rfl rfl rfl rfl rfl rfl) ?_
      refine gl_op rfl rfl rfl (op_pure hT rfl) ?_
      refine gl_op rfl rfl rfl (op_indexAddr hT rfl rfl el28.cellsOf.1 el28.cellsOf.2 rfl rfl (by omega) (by omega) hAB) ?_
      refine gl_op rfl rfl rfl (op_load hT rfl rfl rfl rfl (cellOf hS.below hcB)) ?_
      refine gl_op rfl rfl rfl (op_f2i hT rfl rfl rfl rfl hbI.1 (by omega)) ?_
      first | refine gl_fit hT rfl rfl rfl rfl (by omega) ?_ | refine gl_op rfl rfl rfl (op_pure hT rfl) ?_
      refine gl_op rfl rfl rfl (op_pure hT rfl) ?_
      refine gl_nil ?_
      refine hK19 _ _ ?_
      clear hK19; try clear K19
      refine gc_seq fun K21 hK21 => ?_
      refine gc_region ?_
      refine gl_op rfl rfl rfl (op_pure hT rfl) ?_
      refine gl_op rfl rfl rfl (op_pure hT rfl) ?_
      refine gl_nil ?_
      refine hK21 _ _ ?_
      clear hK21; try clear K21
      refine gc_ret ?_
      try simp only [x_then_ret, x_block_ret]
      refine gk_ret1 rfl rfl ?_
      refine ⟨?_, hS.below⟩
      rw [winS_eq]
      first
        | rw [if_neg (show ¬ L.k = 4 by omega)]
        | rw [if_pos (show L.k = 4 by have := h.k; omega)]
    · try simp only [decide_eq_true_eq, decide_eq_false_iff_not, Bool.not_eq_true', Bool.not_eq_false', Int.not_lt, Int.not_le, Nat.not_lt, Nat.not_le, Bool.true_eq, Bool.false_eq, reduceCtorEq] at c114
      refine gc_skip ?_
      refine hK19 _ _ ?_
      clear hK19; try clear K19
      refine gc_seq fun K22 hK22 => ?_
      refine gc_region ?_
      refine gl_op rfl rfl rfl (op_pure hT rfl) ?_
      refine gl_op rfl rfl rfl (op_pure hT rfl) ?_
      refine gl_nil ?_
      refine hK22 _ _ ?_
      clear hK22; try clear K22
      refine gc_ret ?_
      try simp only [x_then_ret, x_block_ret]
      refine gk_ret1 rfl rfl ?_
      refine ⟨?_, hS.below⟩
      rw [winS_eq]
      first
        | rw [if_neg (show ¬ L.k = 4 by omega)]
        | rw [if_pos (show L.k = 4 by have := h.k; omega)]
theorem spot_place {s : Sh} {p : Sp} (hc : 0 ≤ p.c ∧ p.c < s.c) (hy : 0 ≤ p.y ∧ p.y < s.h) (hx : 0 ≤ p.x ∧ p.x < s.w) : spotV s (placeV s p) = p := by
  have h1 := (place_bd hc hy hx).2.2
  have h2 : placeV s p / s.w = p.c * s.h + p.y := by
    unfold placeV
    rw [Int.add_comm, Int.add_mul_ediv_right _ _ (by omega), Int.ediv_eq_zero_of_lt hx.1 hx.2, Int.zero_add]
  have h3 : placeV s p % s.w = p.x := by
    unfold placeV
    rw [Int.add_comm, Int.add_mul_emod_self_right]
    exact Int.emod_eq_of_lt hx.1 hx.2
  unfold spotV
  rw [h1, h2, h3, Int.add_comm (p.c * s.h), Int.add_mul_emod_self_right, Int.emod_eq_of_lt hy.1 hy.2]
/-- What is written out of all windows. -/
def winsV (L : Ly) (lw lb : List Nat) (s : Sh) (v : List Int) (n : Nat) : List Int := (List.range n).map fun (i : Nat) => winS L lw lb s v (spotV (outS L s) (i : Int))
theorem winsV_succ (L : Ly) (lw lb : List Nat) (s : Sh) (v : List Int) (n : Nat) : winsV L lw lb s v (n + 1) = winsV L lw lb s v n ++ [winS L lw lb s v (spotV (outS L s) (n : Int))] := by simp [winsV, List.range_succ]
theorem winsV_len (L : Ly) (lw lb : List Nat) (s : Sh) (v : List Int) (n : Nat) : (winsV L lw lb s v n).length = n := by simp [winsV]
set_option maxHeartbeats 4000000 in
set_option maxRecDepth 100000 in
theorem windows_calls (L : Ly) (lw lb : List Nat) (lz lzb : List (Nat × Nat)) (s : Sh) (A : Option Addr) (n c : Nat) (v : List Int) (w : World) {ok okv : Nat → Prop} (D : LyD w ok L lw lb lz lzb) (hv : RdE w okv nV A v) (hn : n = v.length) (hM : MxOk L lw lb lz lzb s) (hk : L.k = 2 ∨ L.k = 4) (hsv : Sml v) (hvl : (v.length : Int) = s.c * s.h * s.w)
    (M : Nat) (hMo : (outS L s).c * (outS L s).h * (outS L s).w = (M : Int)) :
    Calls Try.prog 13 ⟨[.agg ⟨lyC L⟩, .agg ⟨shC s⟩, .slice A n c]⟩ w fun e w' => ∃ A' c' K, e = .returned (.slice A' M c') ∧ RdE w' K nV A' (winsV L lw lb s v M) ∧ St w.heap.size w w' [.keep K w'] := by
  subst hn
  have hwk : winV L.k := by unfold winV; omega
  obtain ⟨hf0, hsz, hnw, _, _⟩ := outV_zero hM.out
  obtain ⟨_, _, hfo⟩ := fv_zero hf0
  have hgs := sz_good hsz
  have hgo := out_of_count hM.out
  have hwn := fld_win hfo hwk
  have hout := fld_out hfo
  have hos := outS_win (s := s) hwk
  have hgh : 0 ≤ s.h + 2 * L.ph - L.kh := Int.not_lt.1 fun h2 => hnw ⟨hwk, .inl h2⟩
  have hgw : 0 ≤ s.w + 2 * L.pw - L.kw := Int.not_lt.1 fun h2 => hnw ⟨hwk, .inr h2⟩
  have d1 := div_bd (a := s.h + 2 * L.ph - L.kh) (b := L.sh) hgh (by omega)
  have d2 := div_bd (a := s.w + 2 * L.pw - L.kw) (b := L.sw) hgw (by omega)
  have eH : (outS L s).h = (s.h + 2 * L.ph - L.kh) / L.sh + 1 := by rw [hos]
  have eW : (outS L s).w = (s.w + 2 * L.pw - L.kw) / L.sw + 1 := by rw [hos]
  have eF : (outS L s).c = if L.k = 2 then L.out else s.c := by rw [hos]
  obtain ⟨F, hF0⟩ : ∃ F : Nat, (outS L s).c = (F : Int) := ⟨(outS L s).c.toNat, by omega⟩
  obtain ⟨H, hH0⟩ : ∃ H : Nat, (outS L s).h = (H : Int) := ⟨(outS L s).h.toNat, by omega⟩
  obtain ⟨W, hW0⟩ : ∃ W : Nat, (outS L s).w = (W : Int) := ⟨(outS L s).w.toNat, by omega⟩
  rw [hF0, hH0, hW0] at hMo
  have hMn : M = F * H * W := by
    have : ((F * H * W : Nat) : Int) = (M : Int) := by rw [Int.natCast_mul, Int.natCast_mul]; exact hMo
    omega
  have hlk : L.k = 2 → (lw.length : Int) = L.out * s.c * L.kh * L.kw ∧ (lb.length : Int) = L.out := fun h2 => by
    have hl : lensV L s = (L.out * s.c * L.kh * L.kw, L.out, 0, 0) := by unfold lensV; rw [if_neg (by omega), if_pos h2]
    have h1 := hM.nw
    have h3 := hM.nb
    rw [hl] at h1 h3
    exact ⟨h1, h3⟩
  refine gc_enter (N := 73) Try.func13 rfl rfl rfl [(0, _), (1, _), (2, _)] rfl ?_
  have hS := St.start w
  refine gc_seq fun K1 hK1 => ?_
  refine gc_region ?_
  refine gl_box hS rfl rfl rfl rfl rfl fun g3 w3 hS => ?_
  refine gl_box hS rfl rfl rfl rfl rfl fun g4 w4 hS => ?_
  refine gl_op rfl rfl rfl (op_pure hT rfl) ?_
  refine gl_nil ?_
  refine hK1 _ _ ?_
  clear hK1; try clear K1
  refine gc_seq fun K2 hK2 => ?_
  refine gc_region ?_
  refine gl_op rfl rfl rfl (op_pure hT rfl) ?_
  refine gl_nil ?_
  refine hK2 _ _ ?_
  clear hK2; try clear K2
  refine gc_seq fun K3 hK3 => ?_
  refine gc_anyS hS (by kernel_rfl) rfl fun nq2 hK => ?_
  have hS := hS.dr nq2
  refine ga_take 0 rfl rfl rfl rfl (by kernel_rfl) (fun _ _ _ _ _ h => h) hK (fun w1 hS => op_fieldB 1 rfl Try.underlying27 rfl el3 rfl rfl) ?_
  refine ga_take 1 rfl rfl rfl rfl (by kernel_rfl) (fun _ _ _ _ _ h => h) hK (fun w1 hS => op_loadB 1 hT hS rfl rfl rfl rfl rfl rfl) ?_
  refine ga_take 2 rfl rfl rfl rfl (by kernel_rfl) (fun _ _ _ _ _ h => h) hK (fun w1 hS => op_fieldB 6 rfl Try.underlying32 rfl el3 rfl rfl) ?_
  refine ga_take 3 rfl rfl rfl rfl (by kernel_rfl) (fun _ _ _ _ _ h => h) hK (fun w1 hS => op_loadB 0 hT hS rfl rfl rfl rfl rfl rfl) ?_
  refine ga_take 4 rfl rfl rfl rfl (by kernel_rfl) (fun _ _ _ _ _ h => h) hK (fun w1 hS => (by first | exact op_fit hT rfl (by omega) | exact op_pure hT rfl)) ?_
  refine ga_take 5 rfl rfl rfl rfl (by kernel_rfl) (fun _ _ _ _ _ h => h) hK (fun w1 hS => (by first | exact op_fit hT rfl (by omega) | exact op_pure hT rfl)) ?_
  refine ga_take 6 rfl rfl rfl rfl (by kernel_rfl) (fun _ _ _ _ _ h => h) hK (fun w1 hS => op_fieldB 2 rfl Try.underlying32 rfl el3 rfl rfl) ?_
  refine ga_take 7 rfl rfl rfl rfl (by kernel_rfl) (fun _ _ _ _ _ h => h) hK (fun w1 hS => op_loadB 0 hT hS rfl rfl rfl rfl rfl rfl) ?_
  refine ga_take 8 rfl rfl rfl rfl (by kernel_rfl) (fun _ _ _ _ _ h => h) hK (fun w1 hS => (by first | exact op_fit hT rfl (by omega) | exact op_pure hT rfl)) ?_
  refine ga_take 9 rfl rfl rfl rfl (by kernel_rfl) (fun _ _ _ _ _ h => h) hK (fun w1 hS => op_fieldB 4 rfl Try.underlying32 rfl el3 rfl rfl) ?_
  refine ga_take 10 rfl rfl rfl rfl (by kernel_rfl) (fun _ _ _ _ _ h => h) hK (fun w1 hS => op_loadB 0 hT hS rfl rfl rfl rfl rfl rfl) ?_
  refine ga_take 11 rfl rfl rfl rfl (by kernel_rfl) (fun _ _ _ _ _ h => h) hK (fun w1 hS => (by first | exact op_quo hT rfl (by omega) (by omega) | exact op_pure hT rfl | exact op_quoS rfl rfl rfl (by omega) (by omega))) ?_
  refine ga_take 12 rfl rfl rfl rfl (by kernel_rfl) (fun _ _ _ _ _ h => h) hK (fun w1 hS => (by first | exact op_fit hT rfl (by omega) | exact op_pure hT rfl)) ?_
  refine ga_take 13 rfl rfl rfl rfl (by kernel_rfl) (fun _ _ _ _ _ h => h) hK (fun w1 hS => op_fieldB 2 rfl Try.underlying27 rfl el3 rfl rfl) ?_
  refine ga_take 14 rfl rfl rfl rfl (by kernel_rfl) (fun _ _ _ _ _ h => h) hK (fun w1 hS => op_loadB 1 hT hS rfl rfl rfl rfl rfl rfl) ?_
  refine ga_take 15 rfl rfl rfl rfl (by kernel_rfl) (fun _ _ _ _ _ h => h) hK (fun w1 hS => op_fieldB 7 rfl Try.underlying32 rfl el3 rfl rfl) ?_
  refine ga_take 16 rfl rfl rfl rfl (by kernel_rfl) (fun _ _ _ _ _ h => h) hK (fun w1 hS => op_loadB 0 hT hS rfl rfl rfl rfl rfl rfl) ?_
  refine ga_take 17 rfl rfl rfl rfl (by kernel_rfl) (fun _ _ _ _ _ h => h) hK (fun w1 hS => (by first | exact op_fit hT rfl (by omega) | exact op_pure hT rfl)) ?_
  refine ga_take 18 rfl rfl rfl rfl (by kernel_rfl) (fun _ _ _ _ _ h => h) hK (fun w1 hS => (by first | exact op_fit hT rfl (by omega) | exact op_pure hT rfl)) ?_
  refine ga_take 19 rfl rfl rfl rfl (by kernel_rfl) (fun _ _ _ _ _ h => h) hK (fun w1 hS => op_fieldB 3 rfl Try.underlying32 rfl el3 rfl rfl) ?_
  refine ga_take 20 rfl rfl rfl rfl (by kernel_rfl) (fun _ _ _ _ _ h => h) hK (fun w1 hS => op_loadB 0 hT hS rfl rfl rfl rfl rfl rfl) ?_
  refine ga_take 21 rfl rfl rfl rfl (by kernel_rfl) (fun _ _ _ _ _ h => h) hK (fun w1 hS => (by first | exact op_fit hT rfl (by omega) | exact op_pure hT rfl)) ?_
  refine ga_take 22 rfl rfl rfl rfl (by kernel_rfl) (fun _ _ _ _ _ h => h) hK (fun w1 hS => op_fieldB 5 rfl Try.underlying32 rfl el3 rfl rfl) ?_
  refine ga_take 23 rfl rfl rfl rfl (by kernel_rfl) (fun _ _ _ _ _ h => h) hK (fun w1 hS => op_loadB 0 hT hS rfl rfl rfl rfl rfl rfl) ?_
  refine ga_take 24 rfl rfl rfl rfl (by kernel_rfl) (fun _ _ _ _ _ h => h) hK (fun w1 hS => (by first | exact op_quo hT rfl (by omega) (by omega) | exact op_pure hT rfl | exact op_quoS rfl rfl rfl (by omega) (by omega))) ?_
  refine ga_take 25 rfl rfl rfl rfl (by kernel_rfl) (fun _ _ _ _ _ h => h) hK (fun w1 hS => (by first | exact op_fit hT rfl (by omega) | exact op_pure hT rfl)) ?_
  refine ga_take 26 rfl rfl rfl rfl (by kernel_rfl) (fun _ _ _ _ _ h => h) hK (fun w1 hS => op_pure hT rfl) ?_
  refine ga_take 27 rfl rfl rfl rfl (by kernel_rfl) (fun _ _ _ _ _ h => h) hK (fun w1 hS => op_pure hT rfl) ?_
  refine ga_done (by kernel_rfl) ?_
  refine hK3 _ _ ?_
  clear hK3; try clear K3
  refine gc_seq fun K4 hK4 => ?_
  refine gc_region ?_
  refine gl_op rfl rfl rfl (op_fieldB 0 rfl Try.underlying27 rfl el3 rfl rfl) ?_
  refine gl_op rfl rfl rfl (op_loadB 1 hT hS rfl rfl rfl rfl rfl rfl) ?_
  refine gl_op rfl rfl rfl (op_pure hT rfl) ?_
  refine gl_nil ?_
  refine hK4 _ _ ?_
  clear hK4; try clear K4
  refine gc_cut (fun a w' => Fr 73 a [(2, .slice A v.length c), (3, .pointer (some ⟨g3, 0, none⟩)), (4, .pointer (some ⟨g4, 0, none⟩)), (7, .slice none 0 0), (8, .int .i64 (H : Nat)), (9, .int .i64 (W : Nat)), (10, .int .i64 (F : Nat))] ∧ St w.heap.size w w' [.blk g3 32 (lyC L), .blk g4 27 (shC s)]) ?_ ?_
  · skip
    refine gc_seq fun K5 hK5 => ?_
    refine gc_region ?_
    refine gl_op rfl rfl rfl (op_fieldB 0 rfl Try.underlying32 rfl el3 rfl rfl) ?_
    refine gl_op rfl rfl rfl (op_loadB 0 hT hS rfl rfl rfl rfl rfl rfl) ?_
    refine gl_op rfl rfl rfl (op_pure hT rfl) ?_
    refine gl_nil ?_
    refine hK5 _ _ ?_
    clear hK5; try clear K5
    refine gc_cond rfl rfl (fun c44 => ?_) (fun c44 => ?_)
    · try simp only [decide_eq_true_eq, decide_eq_false_iff_not, Bool.not_eq_true', Bool.not_eq_false', Int.not_lt, Int.not_le, Nat.not_lt, Nat.not_le, Bool.true_eq, Bool.false_eq, reduceCtorEq] at c44
      refine gc_region ?_
      refine gl_op rfl rfl rfl (op_fieldB 1 rfl Try.underlying32 rfl el3 rfl rfl) ?_
      refine gl_op rfl rfl rfl (op_loadB 0 hT hS rfl rfl rfl rfl rfl rfl) ?_
      refine gl_op rfl rfl rfl (op_pure hT rfl) ?_
      refine gl_nil ?_
      intro a ha
      first
        | (rw [if_pos c44] at eF; rw [← hF0, ← hH0, ← hW0, eF, eH, eW]; exact ⟨ha.sub ⟨rfl, rfl, rfl, rfl, rfl, rfl, rfl, trivial⟩, hS⟩)
        | (rw [if_neg c44] at eF; rw [← hF0, ← hH0, ← hW0, eF, eH, eW]; exact ⟨ha.sub ⟨rfl, rfl, rfl, rfl, rfl, rfl, rfl, trivial⟩, hS⟩)
    · try simp only [decide_eq_true_eq, decide_eq_false_iff_not, Bool.not_eq_true', Bool.not_eq_false', Int.not_lt, Int.not_le, Nat.not_lt, Nat.not_le, Bool.true_eq, Bool.false_eq, reduceCtorEq] at c44
      refine gc_skip ?_
      intro a ha
      first
        | (rw [if_pos c44] at eF; rw [← hF0, ← hH0, ← hW0, eF, eH, eW]; exact ⟨ha.sub ⟨rfl, rfl, rfl, rfl, rfl, rfl, rfl, trivial⟩, hS⟩)
        | (rw [if_neg c44] at eF; rw [← hF0, ← hH0, ← hW0, eF, eH, eW]; exact ⟨ha.sub ⟨rfl, rfl, rfl, rfl, rfl, rfl, rfl, trivial⟩, hS⟩)
  rintro a w1 ⟨hF, hS⟩
  refine gc_of hF ?_
  clear hF
  have hS := hS.nil 3 1
  refine gc_seq fun K6 hK6 => ?_
  refine gc_seq fun K7 hK7 => ?_
  refine gc_region ?_
  refine gl_op rfl rfl rfl (op_pure hT rfl) ?_
  refine gl_nil ?_
  refine hK7 _ _ ?_
  clear hK7; try clear K7
  refine gc_block ?_
  refine gc_loop (fun kk a w' => ∃ (f m : Nat) (Ao : Option Addr) (co : Nat), Fr 73 a [(2, .slice A v.length c), (3, .pointer (some ⟨g3, 0, none⟩)), (4, .pointer (some ⟨g4, 0, none⟩)), (7, .slice Ao m co), (8, .int .i64 (H : Nat)), (9, .int .i64 (W : Nat)), (10, .int .i64 (F : Nat)), (11, .int .i64 (f : Nat))] ∧ f ≤ F ∧ kk = F + 1 - f ∧ m = f * H * W ∧
    St w.heap.size w w' [.blk g3 32 (lyC L), .blk g4 27 (shC s), .row Ao co 3 1 m ((winsV L lw lb s v m).map nV)]) (F + 1) ?_ ?_ ?_
  · intro a ha; exact ⟨0, 0, none, 0, ha.sub ⟨rfl, rfl, rfl, rfl, rfl, rfl, rfl, rfl, trivial⟩, by omega, by omega, by simp, hS⟩
  · rintro a w' ⟨p, _, _, _, _, h1, h2, _⟩; omega
  rintro kk a w1 ⟨f, m, Ao, co, hF, hf, hkk, hm, hS⟩
  refine gc_of hF ?_
  clear hF
  refine gc_seq fun K8 hK8 => ?_
  refine gc_seq fun K9 hK9 => ?_
  refine gc_region ?_
  refine gl_op rfl rfl rfl (op_pure hT rfl) ?_
  refine gl_op rfl rfl rfl (op_pure hT rfl) ?_
  refine gl_op rfl rfl rfl (op_pure hT rfl) ?_
  refine gl_nil ?_
  refine hK9 _ _ ?_
  clear hK9; try clear K9
  refine gc_cond rfl rfl (fun c49 => ?_) (fun c49 => ?_)
  · try simp only [decide_eq_true_eq, decide_eq_false_iff_not, Bool.not_eq_true', Bool.not_eq_false', Int.not_lt, Int.not_le, Nat.not_lt, Nat.not_le, Bool.true_eq, Bool.false_eq, reduceCtorEq] at c49
    refine gc_skip ?_
    refine hK8 _ _ ?_
    clear hK8; try clear K8
    refine gc_seq fun K10 hK10 => ?_
    refine gc_block ?_
    refine gc_seq fun K11 hK11 => ?_
    refine gc_region ?_
    refine gl_op rfl rfl rfl (op_pure hT rfl) ?_
    refine gl_nil ?_
    refine hK11 _ _ ?_
    clear hK11; try clear K11
    refine gc_block ?_
    have hfF : f < F := by omega
    refine gc_loop (fun kk a w' => ∃ (y m : Nat) (Ao : Option Addr) (co : Nat), Fr 73 a [(2, .slice A v.length c), (3, .pointer (some ⟨g3, 0, none⟩)), (4, .pointer (some ⟨g4, 0, none⟩)), (7, .slice Ao m co), (8, .int .i64 (H : Nat)), (9, .int .i64 (W : Nat)), (10, .int .i64 (F : Nat)), (11, .int .i64 (f : Nat)), (12, .int .i64 (y : Nat))] ∧ y ≤ H ∧ kk = H + 1 - y ∧ m = (f * H + y) * W ∧
      St w.heap.size w w' [.blk g3 32 (lyC L), .blk g4 27 (shC s), .row Ao co 3 1 m ((winsV L lw lb s v m).map nV)]) (H + 1) ?_ ?_ ?_
    · intro a ha; exact ⟨0, m, Ao, co, ha.sub ⟨rfl, rfl, rfl, rfl, rfl, rfl, rfl, rfl, rfl, trivial⟩, by omega, by omega, by rw [Nat.add_zero]; exact hm, hS⟩
    · rintro a w' ⟨p, _, _, _, _, h1, h2, _⟩; omega
    rintro kk a w1 ⟨y, m, Ao, co, hF, hy, hkk, hm, hS⟩
    refine gc_of hF ?_
    clear hF
    refine gc_seq fun K12 hK12 => ?_
    refine gc_seq fun K13 hK13 => ?_
    refine gc_region ?_
    refine gl_op rfl rfl rfl (op_pure hT rfl) ?_
    refine gl_op rfl rfl rfl (op_pure hT rfl) ?_
    refine gl_op rfl rfl rfl (op_pure hT rfl) ?_
    refine gl_nil ?_
    refine hK13 _ _ ?_
    clear hK13; try clear K13
    refine gc_cond rfl rfl (fun c54 => ?_) (fun c54 => ?_)
    · try simp only [decide_eq_true_eq, decide_eq_false_iff_not, Bool.not_eq_true', Bool.not_eq_false', Int.not_lt, Int.not_le, Nat.not_lt, Nat.not_le, Bool.true_eq, Bool.false_eq, reduceCtorEq] at c54
      refine gc_skip ?_
      refine hK12 _ _ ?_
      clear hK12; try clear K12
      refine gc_seq fun K14 hK14 => ?_
      refine gc_block ?_
      refine gc_seq fun K15 hK15 => ?_
      refine gc_region ?_
      refine gl_op rfl rfl rfl (op_pure hT rfl) ?_
      refine gl_nil ?_
      refine hK15 _ _ ?_
      clear hK15; try clear K15
      refine gc_block ?_
      have hyH : y < H := by omega
      refine gc_loop (fun kk a w' => ∃ (x m : Nat) (Ao : Option Addr) (co : Nat), Fr 73 a [(2, .slice A v.length c), (3, .pointer (some ⟨g3, 0, none⟩)), (4, .pointer (some ⟨g4, 0, none⟩)), (7, .slice Ao m co), (8, .int .i64 (H : Nat)), (9, .int .i64 (W : Nat)), (10, .int .i64 (F : Nat)), (11, .int .i64 (f : Nat)), (12, .int .i64 (y : Nat)), (13, .int .i64 (x : Nat))] ∧ x ≤ W ∧ kk = W + 1 - x ∧ m = (f * H + y) * W + x ∧
        St w.heap.size w w' [.blk g3 32 (lyC L), .blk g4 27 (shC s), .row Ao co 3 1 m ((winsV L lw lb s v m).map nV)]) (W + 1) ?_ ?_ ?_
      · intro a ha; exact ⟨0, m, Ao, co, ha.sub ⟨rfl, rfl, rfl, rfl, rfl, rfl, rfl, rfl, rfl, rfl, trivial⟩, by omega, by omega, by rw [Nat.add_zero]; exact hm, hS⟩
      · rintro a w' ⟨p, _, _, _, _, h1, h2, _⟩; omega
      rintro kk a w1 ⟨x, m, Ao, co, hF, hx, hkk, hm, hS⟩
      refine gc_of hF ?_
      clear hF
      have hpl : placeV (outS L s) ⟨(f : Int), (y : Int), (x : Int)⟩ = (m : Int) := by
        unfold placeV; rw [hm, hH0, hW0]; simp [Int.natCast_add, Int.natCast_mul]
      refine gc_seq fun K16 hK16 => ?_
      refine gc_seq fun K17 hK17 => ?_
      refine gc_region ?_
      refine gl_op rfl rfl rfl (op_pure hT rfl) ?_
      refine gl_op rfl rfl rfl (op_pure hT rfl) ?_
      refine gl_op rfl rfl rfl (op_pure hT rfl) ?_
      refine gl_nil ?_
      refine hK17 _ _ ?_
      clear hK17; try clear K17
      refine gc_cond rfl rfl (fun c59 => ?_) (fun c59 => ?_)
      · try simp only [decide_eq_true_eq, decide_eq_false_iff_not, Bool.not_eq_true', Bool.not_eq_false', Int.not_lt, Int.not_le, Nat.not_lt, Nat.not_le, Bool.true_eq, Bool.false_eq, reduceCtorEq] at c59
        refine gc_skip ?_
        refine hK16 _ _ ?_
        clear hK16; try clear K16
        refine gc_seq fun K18 hK18 => ?_
        refine gc_block ?_
        refine gc_region ?_
        refine gl_op rfl rfl rfl (op_pure hT rfl) ?_
        refine gl_op rfl rfl rfl (op_loadG 0 Try.underlying32 rfl el32 hS rfl rfl rfl rfl rfl) ?_
        refine gl_op rfl rfl rfl (op_loadG 1 Try.underlying27 rfl el27 hS rfl rfl rfl rfl rfl) ?_
        refine gl_op rfl rfl rfl (op_pure hT rfl) ?_
        refine gl_op rfl rfl rfl (op_pure hT rfl) ?_
        refine gl_op rfl rfl rfl (op_pure hT rfl) ?_
        refine gl_op rfl rfl rfl (op_pure hT rfl) ?_
        have hpb := place_bd (s := outS L s) (p := ⟨(f : Int), (y : Int), (x : Int)⟩) ⟨by show (0 : Int) ≤ f; omega, by show (f : Int) < _; omega⟩ ⟨by show (0 : Int) ≤ y; omega, by show (y : Int) < _; omega⟩ ⟨by show (0 : Int) ≤ x; omega, by show (x : Int) < _; omega⟩
        have hsp := spot_place (s := outS L s) (p := ⟨(f : Int), (y : Int), (x : Int)⟩) ⟨by show (0 : Int) ≤ f; omega, by show (f : Int) < _; omega⟩ ⟨by show (0 : Int) ≤ y; omega, by show (y : Int) < _; omega⟩ ⟨by show (0 : Int) ≤ x; omega, by show (x : Int) < _; omega⟩
        rw [hpl] at hpb hsp
        have hLw : LwOk L lw lb s v ⟨(f : Int), (y : Int), (x : Int)⟩ := ⟨hk, hsz, hwn, ⟨by show (0 : Int) ≤ f; omega, by show (f : Int) < 256; rw [hF0] at hgo; have := hgo.1; first | omega | (split at eF <;> omega)⟩, ⟨by show (0 : Int) ≤ y; omega, by show (y : Int) ≤ 256; omega⟩, ⟨by show (0 : Int) ≤ x; omega, by show (x : Int) ≤ 256; omega⟩, hM.sw, hM.sb, hM.sa, hsv, hvl, fun h4 => by rw [if_neg (show ¬ L.k = 2 by omega)] at eF; show (f : Int) < s.c; omega, fun h2 => by rw [if_pos h2] at eF; exact ⟨by show (f : Int) < L.out; omega, hlk h2⟩⟩
        refine gl_callf rfl rfl rfl rfl Try.func23 rfl rfl rfl (lwin_calls L lw lb lz lzb s A v.length c v ⟨(f : Int), (y : Int), (x : Int)⟩ _ (D.old hS) (hv.old hS) rfl hLw) ?_
        rintro _ w69 ⟨rfl, hb69⟩
        refine ⟨_, rfl, ?_⟩
        have hS := hS.grown hb69
        refine gl_lit hT hS el3 rfl rfl rfl rfl rfl rfl rfl rfl rfl fun g70 w70 hS => ?_
        refine gl_append 2 hT hS el3 (hS.rd (i := 3) rfl) (rfl) rfl rfl rfl rfl rfl rfl rfl rfl (by first | omega | (simp; omega)) (by first | omega | (simp; omega)) fun A71 c71 w71 hS => ?_
        have hS := hS.erase 3
        refine gl_op rfl rfl rfl (op_pure hT rfl) ?_
        refine gl_nil ?_
        refine hK18 _ _ ?_
        clear hK18; try clear K18
        refine gc_region ?_
        refine gl_op rfl rfl rfl (op_pure hT rfl) ?_
        first | refine gl_fit hT rfl rfl rfl rfl (by omega) ?_ | refine gl_op rfl rfl rfl (op_pure hT rfl) ?_
        refine gl_op rfl rfl rfl (op_pure hT rfl) ?_
        refine gl_nil ?_
        intro a ha
        refine ⟨x + 1, m + 1, A71, c71, ha.sub ⟨rfl, rfl, rfl, rfl, rfl, rfl, rfl, rfl, rfl, rfl, trivial⟩, by omega, by omega, by omega, ?_⟩
        rw [winsV_succ, List.map_append, hsp]
        exact hS
      · try simp only [decide_eq_true_eq, decide_eq_false_iff_not, Bool.not_eq_true', Bool.not_eq_false', Int.not_lt, Int.not_le, Nat.not_lt, Nat.not_le, Bool.true_eq, Bool.false_eq, reduceCtorEq] at c59
        have hxW : x = W := by omega
        refine gc_exit ?_
        refine hK14 _ _ ?_
        clear hK14; try clear K14
        refine gc_region ?_
        refine gl_op rfl rfl rfl (op_pure hT rfl) ?_
        first | refine gl_fit hT rfl rfl rfl rfl (by omega) ?_ | refine gl_op rfl rfl rfl (op_pure hT rfl) ?_
        refine gl_op rfl rfl rfl (op_pure hT rfl) ?_
        refine gl_nil ?_
        intro a ha
        exact ⟨y + 1, m, Ao, co, ha.sub ⟨rfl, rfl, rfl, rfl, rfl, rfl, rfl, rfl, rfl, trivial⟩, by omega, by omega, by rw [hm, hxW, ← Nat.succ_mul]; rfl, hS⟩
    · try simp only [decide_eq_true_eq, decide_eq_false_iff_not, Bool.not_eq_true', Bool.not_eq_false', Int.not_lt, Int.not_le, Nat.not_lt, Nat.not_le, Bool.true_eq, Bool.false_eq, reduceCtorEq] at c54
      have hyH : y = H := by omega
      refine gc_exit ?_
      refine hK10 _ _ ?_
      clear hK10; try clear K10
      refine gc_region ?_
      refine gl_op rfl rfl rfl (op_pure hT rfl) ?_
      first | refine gl_fit hT rfl rfl rfl rfl (by omega) ?_ | refine gl_op rfl rfl rfl (op_pure hT rfl) ?_
      refine gl_op rfl rfl rfl (op_pure hT rfl) ?_
      refine gl_nil ?_
      intro a ha
      exact ⟨f + 1, m, Ao, co, ha.sub ⟨rfl, rfl, rfl, rfl, rfl, rfl, rfl, rfl, trivial⟩, by omega, by omega, by rw [hm, hyH, ← Nat.succ_mul], hS⟩
  · try simp only [decide_eq_true_eq, decide_eq_false_iff_not, Bool.not_eq_true', Bool.not_eq_false', Int.not_lt, Int.not_le, Nat.not_lt, Nat.not_le, Bool.true_eq, Bool.false_eq, reduceCtorEq] at c49
    have hfF : f = F := by omega
    have hmM : m = M := by rw [hm, hMn, hfF]
    subst hmM
    refine gc_exit ?_
    refine hK6 _ _ ?_
    clear hK6; try clear K6
    refine gc_seq fun K19 hK19 => ?_
    refine gc_region ?_
    refine gl_op rfl rfl rfl (op_pure hT rfl) ?_
    refine gl_op rfl rfl rfl (op_pure hT rfl) ?_
    refine gl_nil ?_
    refine hK19 _ _ ?_
    clear hK19; try clear K19
    refine gc_ret ?_
    try simp only [x_then_ret, x_block_ret]
    refine gk_ret1 rfl rfl ?_
    exact ⟨Ao, co, _, rfl, rdE_of (hS.rowRd (i := 2) rfl fun b hb => ⟨_, by simp, hb⟩) (winsV_len ..), hS.keepAll⟩
end Go.Proofs.Ytkfhablonnjgeaa
