/- Contracts of the document's own numbers, as far as chapter 6 asks for them. No condition. -/
import Derived.Test.YtkfhablonnjgeaaMd2
namespace Go.Proofs.Ytkfhablonnjgeaa
open Go.RowKit
set_option linter.unusedVariables false
set_option linter.unusedSimpArgs false
/-- A number of the document's: its sign, its words as a slice, its exponent. -/
structure Nm where
  neg : Bool
  A : Option Addr
  n : Nat
  c : Nat
  e : Int
@[reducible] def nmC (x : Nm) : List Value := [.bool x.neg, .slice x.A x.n x.c, .int .i64 x.e]
theorem sign_calls (x : Nm) (w : World) : Calls Try.prog 56 ⟨[.agg ⟨nmC x⟩]⟩ w fun e w' => e = .returned (.int .i64 (if x.n = 0 then 0 else if x.neg then -1 else 1)) ∧ Below w.heap.size w w' := by
  refine gc_enter (N := 9) Try.func56 rfl rfl rfl [(0, _)] rfl ?_
  have hS := St.start w
  refine gc_seq fun K1 hK1 => ?_
  refine gc_region ?_
  refine gl_box hS rfl rfl rfl rfl rfl fun g1 w1 hS => ?_
  refine gl_op rfl rfl rfl (op_pure hT rfl) ?_
  refine gl_nil ?_
  refine hK1 _ _ ?_
  clear hK1; try clear K1
  refine gc_seq fun K2 hK2 => ?_
  refine gc_seq fun K3 hK3 => ?_
  refine gc_region ?_
  refine gl_op rfl rfl rfl (op_fieldB 1 rfl Try.underlying108 rfl el106 rfl rfl) ?_
  refine gl_op rfl rfl rfl (op_loadB 0 hT hS rfl rfl rfl rfl rfl rfl) ?_
  refine gl_op rfl rfl rfl (op_pure hT rfl) ?_
  refine gl_op rfl rfl rfl (op_pure hT rfl) ?_
  refine gl_nil ?_
  refine hK3 _ _ ?_
  clear hK3; try clear K3
  refine gc_cond rfl rfl (fun c6 => ?_) (fun c6 => ?_)
  · try simp only [decide_eq_true_eq, decide_eq_false_iff_not, Bool.not_eq_true', Bool.not_eq_false', Int.not_lt, Int.not_le, Nat.not_lt, Nat.not_le, Bool.true_eq, Bool.false_eq, reduceCtorEq] at c6
    refine gc_seq fun K4 hK4 => ?_
    refine gc_region ?_
    refine gl_op rfl rfl rfl (op_pure hT rfl) ?_
    refine gl_nil ?_
    refine hK4 _ _ ?_
    clear hK4; try clear K4
    refine gc_ret ?_
    try simp only [x_then_ret, x_block_ret]
    refine gk_ret1 rfl rfl ?_
    exact ⟨by rw [if_pos (by omega)], hS.below⟩
  · try simp only [decide_eq_true_eq, decide_eq_false_iff_not, Bool.not_eq_true', Bool.not_eq_false', Int.not_lt, Int.not_le, Nat.not_lt, Nat.not_le, Bool.true_eq, Bool.false_eq, reduceCtorEq] at c6
    refine gc_skip ?_
    refine hK2 _ _ ?_
    clear hK2; try clear K2
    refine gc_seq fun K5 hK5 => ?_
    refine gc_seq fun K6 hK6 => ?_
    refine gc_region ?_
    refine gl_op rfl rfl rfl (op_fieldB 0 rfl Try.underlying108 rfl el4 rfl rfl) ?_
    refine gl_op rfl rfl rfl (op_loadB 0 hT hS rfl rfl rfl rfl rfl rfl) ?_
    refine gl_nil ?_
    refine hK6 _ _ ?_
    clear hK6; try clear K6
    refine gc_cond rfl rfl (fun c8 => ?_) (fun c8 => ?_)
    · try simp only [decide_eq_true_eq, decide_eq_false_iff_not, Bool.not_eq_true', Bool.not_eq_false', Int.not_lt, Int.not_le, Nat.not_lt, Nat.not_le, Bool.true_eq, Bool.false_eq, reduceCtorEq] at c8
      refine gc_seq fun K7 hK7 => ?_
      refine gc_region ?_
      refine gl_op rfl rfl rfl (op_pure hT rfl) ?_
      refine gl_nil ?_
      refine hK7 _ _ ?_
      clear hK7; try clear K7
      refine gc_ret ?_
      try simp only [x_then_ret, x_block_ret]
      refine gk_ret1 rfl rfl ?_
      exact ⟨by rw [if_neg (by omega), if_pos c8], hS.below⟩
    · try simp only [decide_eq_true_eq, decide_eq_false_iff_not, Bool.not_eq_true', Bool.not_eq_false', Int.not_lt, Int.not_le, Nat.not_lt, Nat.not_le, Bool.true_eq, Bool.false_eq, reduceCtorEq] at c8
      refine gc_skip ?_
      refine hK5 _ _ ?_
      clear hK5; try clear K5
      refine gc_seq fun K8 hK8 => ?_
      refine gc_region ?_
      refine gl_op rfl rfl rfl (op_pure hT rfl) ?_
      refine gl_nil ?_
      refine hK8 _ _ ?_
      clear hK8; try clear K8
      refine gc_ret ?_
      try simp only [x_then_ret, x_block_ret]
      refine gk_ret1 rfl rfl ?_
      exact ⟨by rw [if_neg (by omega), if_neg (by rw [c8]; simp)], hS.below⟩
theorem turned_calls (x : Nm) (w : World) : Calls Try.prog 61 ⟨[.agg ⟨nmC x⟩]⟩ w fun e w' => e = .returned (.agg ⟨nmC ⟨if x.n = 0 then x.neg else !x.neg, x.A, x.n, x.c, x.e⟩⟩) ∧ Below w.heap.size w w' := by
  obtain ⟨neg, A, n, c, e⟩ := x
  refine gc_enter (N := 12) Try.func61 rfl rfl rfl [(0, _)] rfl ?_
  have hS := St.start w
  refine gc_seq fun K1 hK1 => ?_
  refine gc_region ?_
  refine gl_box hS rfl rfl rfl rfl rfl fun g1 w1 hS => ?_
  refine gl_alloc el108 hS rfl rfl rfl rfl fun g2 w2 hS => ?_
  refine gl_nil ?_
  refine hK1 _ _ ?_
  clear hK1; try clear K1
  refine gc_seq fun K2 hK2 => ?_
  refine gc_seq fun K3 hK3 => ?_
  refine gc_region ?_
  refine gl_op rfl rfl rfl (op_fieldB 1 rfl Try.underlying108 rfl el106 rfl rfl) ?_
  refine gl_op rfl rfl rfl (op_loadB 0 hT hS rfl rfl rfl rfl rfl rfl) ?_
  refine gl_op rfl rfl rfl (op_pure hT rfl) ?_
  refine gl_op rfl rfl rfl (op_pure hT rfl) ?_
  refine gl_nil ?_
  refine hK3 _ _ ?_
  clear hK3; try clear K3
  refine gc_cond rfl rfl (fun c6 => ?_) (fun c6 => ?_)
  · try simp only [decide_eq_true_eq, decide_eq_false_iff_not, Bool.not_eq_true', Bool.not_eq_false', Int.not_lt, Int.not_le, Nat.not_lt, Nat.not_le, Bool.true_eq, Bool.false_eq, reduceCtorEq] at c6
    refine gc_region ?_
    refine gl_op rfl rfl rfl (op_fieldB 0 rfl Try.underlying108 rfl el4 rfl rfl) ?_
    refine gl_op rfl rfl rfl (op_loadB 0 hT hS rfl rfl rfl rfl rfl rfl) ?_
    refine gl_op rfl rfl rfl (op_pure hT rfl) ?_
    refine gl_op rfl rfl rfl (op_fieldB 0 rfl Try.underlying108 rfl el4 rfl rfl) ?_
    refine gl_store 0 hS el4.cellsOf.1 el4.cellsOf.2 rfl rfl rfl rfl rfl rfl rfl rfl fun wnum_go_184 hS => ?_
    refine gl_nil ?_
    refine hK2 _ _ ?_
    clear hK2; try clear K2
    refine gc_seq fun K4 hK4 => ?_
    refine gc_region ?_
    refine gl_op rfl rfl rfl (op_loadG 0 Try.underlying108 rfl el108 hS rfl rfl rfl rfl rfl) ?_
    refine gl_storeM 1 hS el108 rfl rfl rfl rfl rfl rfl rfl rfl rfl fun wnum_go_186 hS => ?_
    refine gl_nil ?_
    refine hK4 _ _ ?_
    clear hK4; try clear K4
    refine gc_ret ?_
    try simp only [x_then_ret, x_block_ret]
    refine gk_res1 rfl (⟨_, rfl, run_loadVarB 1 Try.underlying108 rfl el108 hS rfl rfl rfl⟩) ?_
    refine ⟨?_, hS.below⟩
    first
      | (rw [if_neg (show ¬ n = 0 by omega)]; rfl)
      | (rw [if_pos (show n = 0 by omega)]; rfl)
      | trace_state
  · try simp only [decide_eq_true_eq, decide_eq_false_iff_not, Bool.not_eq_true', Bool.not_eq_false', Int.not_lt, Int.not_le, Nat.not_lt, Nat.not_le, Bool.true_eq, Bool.false_eq, reduceCtorEq] at c6
    refine gc_skip ?_
    refine hK2 _ _ ?_
    clear hK2; try clear K2
    refine gc_seq fun K5 hK5 => ?_
    refine gc_region ?_
    refine gl_op rfl rfl rfl (op_loadG 0 Try.underlying108 rfl el108 hS rfl rfl rfl rfl rfl) ?_
    refine gl_storeM 1 hS el108 rfl rfl rfl rfl rfl rfl rfl rfl rfl fun wnum_go_186 hS => ?_
    refine gl_nil ?_
    refine hK5 _ _ ?_
    clear hK5; try clear K5
    refine gc_ret ?_
    try simp only [x_then_ret, x_block_ret]
    refine gk_res1 rfl (⟨_, rfl, run_loadVarB 1 Try.underlying108 rfl el108 hS rfl rfl rfl⟩) ?_
    refine ⟨?_, hS.below⟩
    first
      | (rw [if_neg (show ¬ n = 0 by omega)]; rfl)
      | (rw [if_pos (show n = 0 by omega)]; rfl)
      | trace_state
theorem level0_calls (x y : Nm) (w : World) (hx : x.n = 0) : Calls Try.prog 62 ⟨[.agg ⟨nmC x⟩, .agg ⟨nmC y⟩]⟩ w fun e w' => e = .returned (.tuple #[.slice none 0 0, .slice y.A y.n y.c, .int .i64 y.e]) ∧ Below w.heap.size w w' := by
  obtain ⟨neg, A, n, c, e⟩ := x
  simp only at hx
  subst hx
  refine gc_enter (N := 52) Try.func62 rfl rfl rfl [(0, _), (1, _)] rfl ?_
  have hS := St.start w
  refine gc_seq fun K1 hK1 => ?_
  refine gc_region ?_
  refine gl_box hS rfl rfl rfl rfl rfl fun g2 w2 hS => ?_
  refine gl_box hS rfl rfl rfl rfl rfl fun g3 w3 hS => ?_
  refine gl_op rfl rfl rfl (op_pure hT rfl) ?_
  refine gl_op rfl rfl rfl (op_pure hT rfl) ?_
  refine gl_op rfl rfl rfl (op_pure hT rfl) ?_
  refine gl_nil ?_
  refine hK1 _ _ ?_
  clear hK1; try clear K1
  refine gc_seq fun K2 hK2 => ?_
  refine gc_seq fun K3 hK3 => ?_
  refine gc_region ?_
  refine gl_op rfl rfl rfl (op_fieldB 1 rfl Try.underlying108 rfl el106 rfl rfl) ?_
  refine gl_op rfl rfl rfl (op_loadB 0 hT hS rfl rfl rfl rfl rfl rfl) ?_
  refine gl_op rfl rfl rfl (op_pure hT rfl) ?_
  refine gl_op rfl rfl rfl (op_pure hT rfl) ?_
  refine gl_nil ?_
  refine hK3 _ _ ?_
  clear hK3; try clear K3
  refine gc_cond_t rfl ?_
  refine gc_seq fun K4 hK4 => ?_
  refine gc_anyS hS (by kernel_rfl) rfl fun nq2 hK => ?_
  have hS := hS.dr nq2
  refine ga_take 0 rfl rfl rfl rfl (by kernel_rfl) (fun _ _ _ _ _ h => h) hK (fun w1 hS => op_fieldB 1 rfl Try.underlying108 rfl el106 rfl rfl) ?_
  refine ga_take 1 rfl rfl rfl rfl (by kernel_rfl) (fun _ _ _ _ _ h => h) hK (fun w1 hS => op_loadB 1 hT hS rfl rfl rfl rfl rfl rfl) ?_
  refine ga_take 2 rfl rfl rfl rfl (by kernel_rfl) (fun _ _ _ _ _ h => h) hK (fun w1 hS => op_fieldB 2 rfl Try.underlying108 rfl el3 rfl rfl) ?_
  refine ga_take 3 rfl rfl rfl rfl (by kernel_rfl) (fun _ _ _ _ _ h => h) hK (fun w1 hS => op_loadB 1 hT hS rfl rfl rfl rfl rfl rfl) ?_
  refine ga_take 4 rfl rfl rfl rfl (by kernel_rfl) (fun _ _ _ _ _ h => h) hK (fun w1 hS => op_pure hT rfl) ?_
  refine ga_take 5 rfl rfl rfl rfl (by kernel_rfl) (fun _ _ _ _ _ h => h) hK (fun w1 hS => op_pure hT rfl) ?_
  refine ga_take 6 rfl rfl rfl rfl (by kernel_rfl) (fun _ _ _ _ _ h => h) hK (fun w1 hS => op_pure hT rfl) ?_
  refine ga_done (by kernel_rfl) ?_
  refine hK4 _ _ ?_
  clear hK4; try clear K4
  refine gc_ret ?_
  try simp only [x_then_ret, x_block_ret]
  refine gk_ret3 rfl rfl rfl rfl ?_
  exact ⟨rfl, hS.below⟩
theorem plus0_calls (x y : Nm) (w : World) (hx : x.n = 0) : Calls Try.prog 60 ⟨[.agg ⟨nmC x⟩, .agg ⟨nmC y⟩]⟩ w fun e w' => e = .returned (.agg ⟨nmC y⟩) ∧ Below w.heap.size w w' := by
  refine gc_enter (N := 62) Try.func60 rfl rfl rfl [(0, _), (1, _)] rfl ?_
  have hS := St.start w
  refine gc_seq fun K1 hK1 => ?_
  refine gc_region ?_
  refine gl_box hS rfl rfl rfl rfl rfl fun g2 w2 hS => ?_
  refine gl_box hS rfl rfl rfl rfl rfl fun g3 w3 hS => ?_
  refine gl_alloc el108 hS rfl rfl rfl rfl fun g4 w4 hS => ?_
  refine gl_nil ?_
  refine hK1 _ _ ?_
  clear hK1; try clear K1
  refine gc_seq fun K2 hK2 => ?_
  refine gc_region ?_
  refine gl_op rfl rfl rfl (op_loadG 0 Try.underlying108 rfl el108 hS rfl rfl rfl rfl rfl) ?_
  refine gl_op rfl rfl rfl (op_loadG 1 Try.underlying108 rfl el108 hS rfl rfl rfl rfl rfl) ?_
  refine gl_callf rfl rfl rfl rfl Try.func62 rfl rfl rfl (level0_calls x y _ hx) ?_
  rintro _ w12 ⟨rfl, hb12⟩
  refine ⟨_, rfl, ?_⟩
  have hS := hS.grown hb12
  refine gl_op rfl rfl rfl (op_pure hT rfl) ?_
  refine gl_op rfl rfl rfl (op_pure hT rfl) ?_
  refine gl_op rfl rfl rfl (op_pure hT rfl) ?_
  refine gl_op rfl rfl rfl (op_pure hT rfl) ?_
  refine gl_op rfl rfl rfl (op_pure hT rfl) ?_
  refine gl_op rfl rfl rfl (op_pure hT rfl) ?_
  refine gl_op rfl rfl rfl (op_pure hT rfl) ?_
  refine gl_nil ?_
  refine hK2 _ _ ?_
  clear hK2; try clear K2
  refine gc_seq fun K3 hK3 => ?_
  refine gc_region ?_
  refine gl_op rfl rfl rfl (op_fieldB 0 rfl Try.underlying108 rfl el4 rfl rfl) ?_
  refine gl_op rfl rfl rfl (op_loadB 0 hT hS rfl rfl rfl rfl rfl rfl) ?_
  refine gl_op rfl rfl rfl (op_pure hT rfl) ?_
  refine gl_op rfl rfl rfl (op_buildG rfl plan108 rfl rfl) ?_
  refine gl_alloc el108 hS rfl rfl rfl rfl fun g8 w8 hS => ?_
  refine gl_storeM 3 hS el108 rfl rfl rfl rfl rfl rfl rfl rfl rfl fun wnum_go_220 hS => ?_
  refine gl_nil ?_
  refine hK3 _ _ ?_
  clear hK3; try clear K3
  refine gc_seq fun K4 hK4 => ?_
  refine gc_block ?_
  refine gc_seq fun K5 hK5 => ?_
  refine gc_region ?_
  refine gl_op rfl rfl rfl (op_pure hT rfl) ?_
  refine gl_op rfl rfl rfl (op_pure hT rfl) ?_
  refine gl_op rfl rfl rfl (op_pure hT rfl) ?_
  refine gl_op rfl rfl rfl (op_pure hT rfl) ?_
  refine gl_nil ?_
  refine hK5 _ _ ?_
  clear hK5; try clear K5
  refine gc_cond_t rfl ?_
  refine gc_seq fun K6 hK6 => ?_
  refine gc_region ?_
  refine gl_op rfl rfl rfl (op_loadG 1 Try.underlying108 rfl el108 hS rfl rfl rfl rfl rfl) ?_
  refine gl_storeM 2 hS el108 rfl rfl rfl rfl rfl rfl rfl rfl rfl fun wnum_go_223 hS => ?_
  refine gl_nil ?_
  refine hK6 _ _ ?_
  clear hK6; try clear K6
  refine gc_ret ?_
  try simp only [x_then_ret, x_block_ret]
  refine gk_res1 rfl (⟨_, rfl, run_loadVarB 2 Try.underlying108 rfl el108 hS rfl rfl rfl⟩) ?_
  exact ⟨rfl, hS.below⟩
theorem minus0_calls (x y : Nm) (w : World) (hx : x.n = 0) : Calls Try.prog 59 ⟨[.agg ⟨nmC x⟩, .agg ⟨nmC y⟩]⟩ w fun e w' => e = .returned (.agg ⟨nmC ⟨if y.n = 0 then y.neg else !y.neg, y.A, y.n, y.c, y.e⟩⟩) ∧ Below w.heap.size w w' := by
  refine gc_enter (N := 9) Try.func59 rfl rfl rfl [(0, _), (1, _)] rfl ?_
  have hS := St.start w
  refine gc_seq fun K1 hK1 => ?_
  refine gc_region ?_
  refine gl_box hS rfl rfl rfl rfl rfl fun g2 w2 hS => ?_
  refine gl_box hS rfl rfl rfl rfl rfl fun g3 w3 hS => ?_
  refine gl_alloc el108 hS rfl rfl rfl rfl fun g4 w4 hS => ?_
  refine gl_nil ?_
  refine hK1 _ _ ?_
  clear hK1; try clear K1
  refine gc_seq fun K2 hK2 => ?_
  refine gc_anyS (hS.blank 2) (by kernel_rfl) rfl fun nq1 hK => ?_
  have hS := hS.dr nq1
  refine ga_take 0 rfl rfl rfl rfl (by kernel_rfl) (fun _ _ _ _ _ h => h) hK (fun w1 hS => op_loadG 0 Try.underlying108 rfl el108 hS rfl rfl rfl rfl rfl) ?_
  refine ga_take 1 rfl rfl rfl rfl (by kernel_rfl) (fun _ _ _ _ _ h => h) hK (fun w1 hS => op_loadG 1 Try.underlying108 rfl el108 hS rfl rfl rfl rfl rfl) ?_
  refine ga_one 2 (by kernel_rfl) rfl ?_
  refine gl_callf rfl rfl rfl rfl Try.func61 rfl rfl rfl (turned_calls y _) ?_
  rintro _ w7 ⟨rfl, hb7⟩
  refine ⟨_, rfl, ?_⟩
  have hS := hS.grown hb7
  refine gl_nil ?_
  refine ga_next ((hS.blank 2).pre 3) fun hK => ?_
  refine ga_one 3 (by kernel_rfl) rfl ?_
  refine gl_callf rfl rfl rfl rfl Try.func60 rfl rfl rfl (plus0_calls x ⟨if y.n = 0 then y.neg else !y.neg, y.A, y.n, y.c, y.e⟩ _ hx) ?_
  rintro _ w8 ⟨rfl, hb8⟩
  refine ⟨_, rfl, ?_⟩
  have hS := hS.grown hb8
  refine gl_nil ?_
  refine ga_next ((hS.blank 2).pre 3) fun hK => ?_
  refine ga_one 4 (by kernel_rfl) rfl ?_
  refine gl_storeM 2 hS el108 rfl rfl rfl rfl rfl rfl rfl rfl rfl fun wnum_go_241 hS => ?_
  refine gl_nil ?_
  refine ga_next ((hS.blank 2).pre 3) fun hK => ?_
  refine ga_done (by kernel_rfl) ?_
  refine hK2 _ _ ?_
  clear hK2; try clear K2
  refine gc_ret ?_
  try simp only [x_then_ret, x_block_ret]
  refine gk_res1 rfl (⟨_, rfl, run_loadVarB 2 Try.underlying108 rfl el108 hS rfl rfl rfl⟩) ?_
  exact ⟨rfl, hS.below⟩
theorem cmp0_calls (x y : Nm) (w : World) (hx : x.n = 0) : Calls Try.prog 57 ⟨[.agg ⟨nmC x⟩, .agg ⟨nmC y⟩]⟩ w fun e w' => e = .returned (.int .i64 (if y.n = 0 then 0 else if (if y.n = 0 then y.neg else !y.neg) then -1 else 1)) ∧ Below w.heap.size w w' := by
  refine gc_enter (N := 9) Try.func57 rfl rfl rfl [(0, _), (1, _)] rfl ?_
  have hS := St.start w
  refine gc_seq fun K1 hK1 => ?_
  refine gc_region ?_
  refine gl_box hS rfl rfl rfl rfl rfl fun g2 w2 hS => ?_
  refine gl_box hS rfl rfl rfl rfl rfl fun g3 w3 hS => ?_
  refine gl_op rfl rfl rfl (op_pure hT rfl) ?_
  refine gl_nil ?_
  refine hK1 _ _ ?_
  clear hK1; try clear K1
  refine gc_seq fun K2 hK2 => ?_
  refine gc_region ?_
  refine gl_op rfl rfl rfl (op_loadG 0 Try.underlying108 rfl el108 hS rfl rfl rfl rfl rfl) ?_
  refine gl_op rfl rfl rfl (op_loadG 1 Try.underlying108 rfl el108 hS rfl rfl rfl rfl rfl) ?_
  refine gl_callf rfl rfl rfl rfl Try.func59 rfl rfl rfl (minus0_calls x y _ hx) ?_
  rintro _ w7 ⟨rfl, hb7⟩
  refine ⟨_, rfl, ?_⟩
  have hS := hS.grown hb7
  refine gl_callf rfl rfl rfl rfl Try.func56 rfl rfl rfl (sign_calls ⟨if y.n = 0 then y.neg else !y.neg, y.A, y.n, y.c, y.e⟩ _) ?_
  rintro _ w8 ⟨rfl, hb8⟩
  refine ⟨_, rfl, ?_⟩
  have hS := hS.grown hb8
  refine gl_op rfl rfl rfl (op_pure hT rfl) ?_
  refine gl_nil ?_
  refine hK2 _ _ ?_
  clear hK2; try clear K2
  refine gc_ret ?_
  try simp only [x_then_ret, x_block_ret]
  refine gk_ret1 rfl rfl ?_
  exact ⟨rfl, hS.below⟩
@[reducible] def w4 (u : Nat) : Value := .int .u32 (u : Nat)
theorem trim_calls (A : Option Addr) (c : Nat) (a b : Nat) (w : World) {ok : Nat → Prop} (h1 : RdE w ok w4 A [a, b]) (hc : 2 ≤ c) :
    Calls Try.prog 58 ⟨[.slice A 2 c]⟩ w fun e w' => ∃ n : Nat, e = .returned (.slice A n c) ∧ n ≤ 2 ∧ (a ≠ 0 ∨ b ≠ 0 → 0 < n) ∧ Eqv w w' := by
  have hrd := h1
  refine gc_enter (N := 21) Try.func58 rfl rfl rfl [(0, _)] rfl ?_
  refine gc_seq fun K1 hK1 => ?_
  refine gc_region ?_
  refine gl_op rfl rfl rfl (op_pure hT rfl) ?_
  refine gl_nil ?_
  refine hK1 _ _ ?_
  clear hK1; try clear K1
  refine gc_seq fun K2 hK2 => ?_
  refine gc_region ?_
  refine gl_op rfl rfl rfl (op_pure hT rfl) ?_
  refine gl_op rfl rfl rfl (op_pure hT rfl) ?_
  refine gl_op rfl rfl rfl (op_pure hT rfl) ?_
  refine gl_nil ?_
  refine hK2 _ _ ?_
  clear hK2; try clear K2
  refine gc_seq fun K3 hK3 => ?_
  refine gc_block ?_
  refine gc_loop (fun k x w' => ∃ n : Nat, Fr 21 x [(0, .slice A 2 c), (3, .int .i64 (n : Nat))] ∧ n ≤ 2 ∧ k = n + 1 ∧ (n < 2 → b = 0) ∧ (n < 1 → a = 0) ∧ Eqv w w') 3 ?_ ?_ ?_
  · intro x hx; exact ⟨2, hx.sub ⟨rfl, rfl, trivial⟩, by omega, by omega, by omega, by omega, Eqv.refl _⟩
  · rintro x w ⟨n, _, h1, h2, _⟩; omega
  rintro k x _ ⟨n, hF, hn, hk, hb, ha0, q, rfl⟩
  refine gc_of hF ?_
  refine gc_seq fun K4 hK4 => ?_
  refine gc_seq fun K5 hK5 => ?_
  refine gc_region ?_
  refine gl_op rfl rfl rfl (op_pure hT rfl) ?_
  refine gl_op rfl rfl rfl (op_pure hT rfl) ?_
  refine gl_op rfl rfl rfl (op_pure hT rfl) ?_
  refine gl_split (t := 8) rfl (fun c8 => ?_) (fun c8 => ?_)
  · try simp only [decide_eq_true_eq, decide_eq_false_iff_not, Bool.not_eq_true', Bool.not_eq_false', Int.not_lt, Int.not_le, Nat.not_lt, Nat.not_le, Bool.true_eq, Bool.false_eq, reduceCtorEq] at c8
    refine gl_un rfl rfl rfl rfl ?_
    refine gl_op rfl rfl rfl (op_pure hT rfl) ?_
    refine gl_un rfl rfl rfl rfl ?_
    refine gl_op rfl rfl rfl (op_pure hT rfl) ?_
    refine gl_un rfl rfl rfl rfl ?_
    first | refine gl_fit hT rfl rfl rfl rfl (by omega) ?_ | refine gl_op rfl rfl rfl (op_pure hT rfl) ?_
    refine gl_un rfl rfl rfl rfl ?_
    obtain ⟨u, hu⟩ : ∃ u, u = [a, b].getD (n - 1) 0 := ⟨_, rfl⟩
    obtain ⟨ad, hA, hcl⟩ := (h1.eqv ⟨q, rfl⟩).at 0 (i := (n : Int) - 1) (by omega) (by show (n : Int) - 1 < 2; omega)
    rw [show ((n : Int) - 1).toNat = n - 1 by omega, ← hu] at hcl
    have hab : (n = 2 → u = b) ∧ (n = 1 → u = a) := ⟨fun h => by rw [hu, h]; rfl, fun h => by rw [hu, h]; rfl⟩
    refine gl_op rfl rfl rfl (op_indexAddr hT rfl rfl el114.cellsOf.1 el114.cellsOf.2 rfl rfl (by omega) (by show (n : Int) - 1 < 2; omega) hA) ?_
    refine gl_spell 12 (v := .pointer (some (ad.add ((n - 1) * 1)))) rfl (by rw [show ((n : Int) - 1).toNat = n - 1 by omega]) ?_
    refine gl_un rfl rfl rfl rfl ?_
    refine gl_op rfl rfl rfl (op_load hT rfl rfl rfl rfl hcl) ?_
    refine gl_un rfl rfl rfl rfl ?_
    refine gl_op rfl rfl rfl (op_pure hT rfl) ?_
    refine gl_op rfl rfl rfl (op_pure hT rfl) ?_
    refine gl_nil ?_
    refine hK5 _ _ ?_
    clear hK5; try clear K5
    refine gc_cond rfl rfl (fun c15 => ?_) (fun c15 => ?_)
    · try simp only [decide_eq_true_eq, decide_eq_false_iff_not, Bool.not_eq_true', Bool.not_eq_false', Int.not_lt, Int.not_le, Nat.not_lt, Nat.not_le, Bool.true_eq, Bool.false_eq, reduceCtorEq] at c15
      refine gc_skip ?_
      refine hK4 _ _ ?_
      clear hK4; try clear K4
      refine gc_block ?_
      refine gc_region ?_
      refine gl_op rfl rfl rfl (op_pure hT rfl) ?_
      first | refine gl_fit hT rfl rfl rfl rfl (by omega) ?_ | refine gl_op rfl rfl rfl (op_pure hT rfl) ?_
      refine gl_op rfl rfl rfl (op_pure hT rfl) ?_
      refine gl_nil ?_
      intro x hx
      exact ⟨n - 1, hx.sub ⟨rfl, by rw [show (((n - 1 : Nat) : Nat) : Int) = (n : Int) - 1 by omega]; rfl, trivial⟩, by omega, by omega, by omega, by omega, ⟨q, rfl⟩⟩
    · try simp only [decide_eq_true_eq, decide_eq_false_iff_not, Bool.not_eq_true', Bool.not_eq_false', Int.not_lt, Int.not_le, Nat.not_lt, Nat.not_le, Bool.true_eq, Bool.false_eq, reduceCtorEq] at c15
      refine gc_exit ?_
      refine hK3 _ _ ?_
      clear hK3; try clear K3
      refine gc_seq fun K6 hK6 => ?_
      refine gc_region ?_
      refine gl_op rfl rfl rfl (op_pure hT rfl) ?_
      refine gl_op rfl rfl rfl (op_pure hT rfl) ?_
      refine gl_op rfl rfl rfl (op_slice_h hT el114 rfl rfl rfl rfl (by first | omega | (simp; omega)) (by first | omega | (simp; omega))) ?_
      refine gl_op rfl rfl rfl (op_pure hT rfl) ?_
      refine gl_nil ?_
      refine hK6 _ _ ?_
      clear hK6; try clear K6
      refine gc_ret ?_
      try simp only [x_then_ret, x_block_ret]
      refine gk_ret1 rfl rfl ?_
      refine ⟨n, rfl, hn, fun h => ?_, ⟨q, rfl⟩⟩
      omega
  · try simp only [decide_eq_true_eq, decide_eq_false_iff_not, Bool.not_eq_true', Bool.not_eq_false', Int.not_lt, Int.not_le, Nat.not_lt, Nat.not_le, Bool.true_eq, Bool.false_eq, reduceCtorEq] at c8
    refine gl_pass rfl rfl rfl rfl rfl rfl ?_
    refine gl_pass rfl rfl rfl rfl rfl rfl ?_
    refine gl_pass rfl rfl rfl rfl rfl rfl ?_
    refine gl_pass rfl rfl rfl rfl rfl rfl ?_
    refine gl_pass rfl rfl rfl rfl rfl rfl ?_
    refine gl_pass rfl rfl rfl rfl rfl rfl ?_
    refine gl_op rfl rfl rfl (op_pure hT rfl) ?_
    refine gl_nil ?_
    refine hK5 _ _ ?_
    clear hK5; try clear K5
    refine gc_cond_f rfl ?_
    refine gc_exit ?_
    refine hK3 _ _ ?_
    clear hK3; try clear K3
    refine gc_seq fun K7 hK7 => ?_
    refine gc_region ?_
    refine gl_op rfl rfl rfl (op_pure hT rfl) ?_
    refine gl_op rfl rfl rfl (op_pure hT rfl) ?_
    refine gl_op rfl rfl rfl (op_slice_h hT el114 rfl rfl rfl rfl (by first | omega | (simp; omega)) (by first | omega | (simp; omega))) ?_
    refine gl_op rfl rfl rfl (op_pure hT rfl) ?_
    refine gl_nil ?_
    refine hK7 _ _ ?_
    clear hK7; try clear K7
    refine gc_ret ?_
    try simp only [x_then_ret, x_block_ret]
    refine gk_ret1 rfl rfl ?_
    refine ⟨n, rfl, hn, fun h => ?_, ⟨q, rfl⟩⟩
    omega
end Go.Proofs.Ytkfhablonnjgeaa
