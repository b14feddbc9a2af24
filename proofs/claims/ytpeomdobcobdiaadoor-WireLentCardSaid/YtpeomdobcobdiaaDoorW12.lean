/- Contracts of what reads frames. No condition. -/
import Derived.Test.YtpeomdobcobdiaaDoorW10
import Derived.Test.YtpeomdobcobdiaaDoorW7
import Derived.Test.YtpeomdobcobdiaaDoorLibR
namespace Go.Proofs.YtpeomdobcobdiaaDoor
open Go.RowKit
set_option linter.unusedVariables false
set_option linter.unusedSimpArgs false
theorem shl32 (b : UInt8) (k : Nat) (h : b.toNat * 2 ^ k < 4294967296) : IntKind.u32.wrap ((b.toNat : Int) * 2 ^ k) = ((b.toNat * 2 ^ k : Nat) : Int) := by
  have e : ((b.toNat : Int) * 2 ^ k) = ((b.toNat * 2 ^ k : Nat) : Int) := by push_cast; rfl
  rw [e, IntKind.wrap_u32]
  generalize b.toNat * 2 ^ k = y at h
  omega
theorem word_calls (A : Option Addr) (c : Nat) (l : List UInt8) (w : World) {ok : Nat → Prop} (h1 : RdE w ok uB A l) (hl : 4 ≤ l.length) :
    Calls Tryd.prog 63 ⟨[.slice A l.length c]⟩ w fun e w' => e = .returned (.int .u32 (wordV l)) ∧ Eqv w w' := by
  have b0 := (l.getD 0 0).toNat_lt
  have b1 := (l.getD 1 0).toNat_lt
  have b2 := (l.getD 2 0).toNat_lt
  have b3 := (l.getD 3 0).toNat_lt
  have w0 : ∀ x : UInt8, IntKind.u32.wrap (x.toNat : Int) = (x.toNat : Int) := fun x => by have := x.toNat_lt; rw [IntKind.wrap_u32]; omega
  refine gc_enter (N := 25) Tryd.func63 rfl rfl rfl [(0, _)] rfl ?_
  refine gc_seq fun K1 hK1 => ?_
  refine gc_region ?_
  refine gl_op rfl rfl rfl (op_pure hT rfl) ?_
  refine gl_nil ?_
  refine hK1 _ _ ?_
  clear hK1; try clear K1
  refine gc_seq fun K2 hK2 => ?_
  refine gc_quiet (by kernel_rfl) (by kernel_rfl) ?_
  refine gq_op rfl rfl rfl (op_pure hT rfl) ?_
  refine gq_ix (0 : UInt8) hT h1 rfl rfl rfl rfl rfl el5.cellsOf.1 el5.cellsOf.2 rfl (by simp) rfl (by omega) (by first | omega | (simp; omega)) fun p4 hp4 => ?_
  refine gq_op rfl rfl rfl (op_load hT rfl rfl rfl rfl hp4) ?_
  refine gq_op rfl rfl rfl (op_pure hT rfl) ?_
  refine gq_spell 6 (v := .int .u32 ((l.getD 0 0).toNat : Nat)) rfl (by rw [w0]; rfl) ?_
  refine gq_op rfl rfl rfl (op_pure hT rfl) ?_
  refine gq_ix (0 : UInt8) hT h1 rfl rfl rfl rfl rfl el5.cellsOf.1 el5.cellsOf.2 rfl (by simp) rfl (by omega) (by first | omega | (simp; omega)) fun p8 hp8 => ?_
  refine gq_op rfl rfl rfl (op_load hT rfl rfl rfl rfl hp8) ?_
  refine gq_op rfl rfl rfl (op_pure hT rfl) ?_
  refine gq_op rfl rfl rfl (op_pure hT rfl) ?_
  refine gq_spell 11 (v := .int .u32 ((l.getD 1 0).toNat * 2 ^ 8 : Nat)) rfl (by rw [w0, ← shl32 _ 8 (by omega)]; rfl) ?_
  refine gq_op rfl rfl rfl (op_pure hT rfl) ?_
  refine gq_spell 12 (v := .int .u32 ((l.getD 0 0).toNat + (l.getD 1 0).toNat * 2 ^ 8 : Nat)) rfl (by rw [u32_or _ _ (by omega) (by omega), or_add 8 _ _ (by omega)]) ?_
  refine gq_op rfl rfl rfl (op_pure hT rfl) ?_
  refine gq_ix (0 : UInt8) hT h1 rfl rfl rfl rfl rfl el5.cellsOf.1 el5.cellsOf.2 rfl (by simp) rfl (by omega) (by first | omega | (simp; omega)) fun p14 hp14 => ?_
  refine gq_op rfl rfl rfl (op_load hT rfl rfl rfl rfl hp14) ?_
  refine gq_op rfl rfl rfl (op_pure hT rfl) ?_
  refine gq_op rfl rfl rfl (op_pure hT rfl) ?_
  refine gq_spell 17 (v := .int .u32 ((l.getD 2 0).toNat * 2 ^ 16 : Nat)) rfl (by rw [w0, ← shl32 _ 16 (by omega)]; rfl) ?_
  refine gq_op rfl rfl rfl (op_pure hT rfl) ?_
  refine gq_spell 18 (v := .int .u32 ((l.getD 0 0).toNat + (l.getD 1 0).toNat * 2 ^ 8 + (l.getD 2 0).toNat * 2 ^ 16 : Nat)) rfl (by rw [u32_or _ _ (by omega) (by omega), or_add 16 _ _ (by omega)]) ?_
  refine gq_op rfl rfl rfl (op_pure hT rfl) ?_
  refine gq_ix (0 : UInt8) hT h1 rfl rfl rfl rfl rfl el5.cellsOf.1 el5.cellsOf.2 rfl (by simp) rfl (by omega) (by first | omega | (simp; omega)) fun p20 hp20 => ?_
  refine gq_op rfl rfl rfl (op_load hT rfl rfl rfl rfl hp20) ?_
  refine gq_op rfl rfl rfl (op_pure hT rfl) ?_
  refine gq_op rfl rfl rfl (op_pure hT rfl) ?_
  refine gq_spell 23 (v := .int .u32 ((l.getD 3 0).toNat * 2 ^ 24 : Nat)) rfl (by rw [w0, ← shl32 _ 24 (by omega)]; rfl) ?_
  refine gq_op rfl rfl rfl (op_pure hT rfl) ?_
  refine gq_spell 24 (v := .int .u32 ((l.getD 0 0).toNat + (l.getD 1 0).toNat * 2 ^ 8 + (l.getD 2 0).toNat * 2 ^ 16 + (l.getD 3 0).toNat * 2 ^ 24 : Nat)) rfl (by rw [u32_or _ _ (by omega) (by omega), or_add 24 _ _ (by omega)]) ?_
  refine gq_op rfl rfl rfl (op_pure hT rfl) ?_
  refine gq_nil fun nq1 => ?_
  refine hK2 _ _ ?_
  clear hK2; try clear K2
  refine gc_ret ?_
  try simp only [x_then_ret, x_block_ret]
  refine gk_ret1 rfl rfl ?_
  refine ⟨?_, ⟨_, rfl⟩⟩
  congr 2
  unfold wordV; omega
theorem Clone_calls (A : Option Addr) (n c : Nat) (l : List UInt8) (w : World) {ok : Nat → Prop} (h1 : Rd w ok A n 1 (l.map uB)) (hb : n ≤ 140737488355328) :
    Calls Tryd.prog 64 ⟨[.slice A n c]⟩ w fun e w' => ∃ A' c', e = .returned (.slice A' n c') ∧ Owns w' w.heap.size A' c' 5 1 n (l.map uB) ∧ Below w.heap.size w w' := by
  refine gc_enter (N := 8) Tryd.func64 rfl rfl rfl [(0, _)] rfl ?_
  have hS := St.start w
  refine gc_seq fun K1 hK1 => ?_
  refine gc_region ?_
  refine gl_op rfl rfl rfl (op_pure hT rfl) ?_
  refine gl_nil ?_
  refine hK1 _ _ ?_
  clear hK1; try clear K1
  refine gc_seq fun K2 hK2 => ?_
  refine gc_seq fun K3 hK3 => ?_
  refine gc_region ?_
  refine gl_op rfl rfl rfl (op_pure hT rfl) ?_
  refine gl_op rfl rfl rfl (op_eqnil hT rfl rfl rfl) ?_
  refine gl_nil ?_
  refine hK3 _ _ ?_
  clear hK3; try clear K3
  refine gc_cond rfl rfl (fun c4 => ?_) (fun c4 => ?_)
  · try simp only [decide_eq_true_eq, decide_eq_false_iff_not, Bool.not_eq_true', Bool.not_eq_false', Int.not_lt, Int.not_le, Nat.not_lt, Nat.not_le, Bool.true_eq, Bool.false_eq, reduceCtorEq] at c4
    refine gc_seq fun K4 hK4 => ?_
    refine gc_region ?_
    refine gl_op rfl rfl rfl (op_pure hT rfl) ?_
    refine gl_nil ?_
    refine hK4 _ _ ?_
    clear hK4; try clear K4
    refine gc_ret ?_
    try simp only [x_then_ret, x_block_ret]
    refine gk_ret1 rfl rfl ?_
    have hn : n = 0 := by
      rcases Nat.eq_zero_or_pos n with h | h
      · exact h
      · obtain ⟨ad, hA, _⟩ := h1.2 h; rw [hA] at c4; cases c4
    subst hn
    have hl : l.map uB = [] := List.eq_nil_of_length_eq_zero (by simpa using h1.1)
    rw [hl]
    exact ⟨none, 0, rfl, owns_nil, hS.below⟩
  · try simp only [decide_eq_true_eq, decide_eq_false_iff_not, Bool.not_eq_true', Bool.not_eq_false', Int.not_lt, Int.not_le, Nat.not_lt, Nat.not_le, Bool.true_eq, Bool.false_eq, reduceCtorEq] at c4
    refine gc_skip ?_
    refine hK2 _ _ ?_
    clear hK2; try clear K2
    refine gc_seq fun K5 hK5 => ?_
    refine gc_region ?_
    refine gl_lit hT hS el5 rfl rfl rfl rfl rfl rfl rfl rfl rfl fun g5 w5 hS => ?_
    refine gl_op rfl rfl rfl (op_pure hT rfl) ?_
    refine gl_append 0 hT hS el5 (h1.old (by decide) hS) (allOne_uB _) rfl rfl rfl rfl rfl rfl rfl rfl (by omega) (by omega) fun A7 c7 w7 hS => ?_
    refine gl_op rfl rfl rfl (op_pure hT rfl) ?_
    refine gl_nil ?_
    refine hK5 _ _ ?_
    clear hK5; try clear K5
    refine gc_ret ?_
    try simp only [x_then_ret, x_block_ret]
    refine gk_ret1 rfl rfl ?_
    obtain ⟨h2, h3⟩ := hS.out (i := 0) rfl
    simp only [Nat.zero_add, List.nil_append] at h2
    exact ⟨A7, c7, by simp, h2, h3⟩
theorem wordN_calls (A : Option Addr) (n c : Nat) (l : List UInt8) (w : World) {ok : Nat → Prop} (h1 : RdE w ok uB A l) (hn : n = l.length) (hl : 4 ≤ n) :
    Calls Tryd.prog 63 ⟨[.slice A n c]⟩ w fun e w' => ∃ v, e = .returned v ∧ Below w.heap.size w w' ∧ (Inf.det (.int .u32 (wordV l))).holds v w' := by
  subst hn
  exact (word_calls A c l w h1 hl).mono fun e w' ⟨h1, h2⟩ => ⟨_, h1, h2.below _, rfl⟩
theorem Sum1N_calls (A A1 : Option Addr) (c n c1 : Nat) (l : List UInt8) (w : World) {ok ok1 : Nat → Prop} (h1 : RdE w ok sV A [(A1, n, c1)]) (h2 : RdE w ok1 uB A1 l) (hn : n = l.length) (hb : l.length ≤ 4611686018427387904) :
    Calls Tryd.prog 23 ⟨[.slice A 1 c]⟩ w fun e w' => ∃ v, e = .returned v ∧ Below w.heap.size w w' ∧ (Inf.det (.int .u32 (crcV l))).holds v w' := by
  subst hn
  exact (Sum1_calls A A1 c c1 l w h1 h2 hb).mono fun e w' ⟨h1, h2⟩ => ⟨_, h1, h2, rfl⟩
theorem wordE_calls (A : Option Addr) (n c : Nat) (l : List UInt8) (w : World) {ok : Nat → Prop} (h1 : RdE w ok uB A l) (hn : n = l.length) (hl : 4 ≤ n) :
    Calls Tryd.prog 63 ⟨[.slice A n c]⟩ w fun e w' => e = .returned (.int .u32 (wordV l)) ∧ Eqv w w' := by
  subst hn
  exact word_calls A c l w h1 hl
theorem ReadFrame_calls (A : Option Addr) (c : Nat) (l : List UInt8) (at_ : Int) (w : World) {ok : Nat → Prop} (h1 : RdE w ok uB A l) (hb : l.length ≤ 140737488355328) (hc : l.length ≤ c) :
    Calls Tryd.prog 42 ⟨[.slice A l.length c, .int .i64 at_]⟩ w fun e w' => ∃ A' c', e = .returned (.tuple #[.slice A' (readFrameV l at_).1.length c', .int .i64 (readFrameV l at_).2.1, .int .i64 (readFrameV l at_).2.2]) ∧
      Owns w' w.heap.size A' c' 5 1 (readFrameV l at_).1.length ((readFrameV l at_).1.map uB) ∧ Below w.heap.size w w' := by
  refine gc_enter (N := 67) Tryd.func42 rfl rfl rfl [(0, _), (1, _)] rfl ?_
  have hS := St.start w
  refine gc_seq fun K1 hK1 => ?_
  refine gc_region ?_
  refine gl_op rfl rfl rfl (op_pure hT rfl) ?_
  refine gl_op rfl rfl rfl (op_pure hT rfl) ?_
  refine gl_op rfl rfl rfl (op_pure hT rfl) ?_
  refine gl_nil ?_
  refine hK1 _ _ ?_
  clear hK1; try clear K1
  refine gc_seq fun K2 hK2 => ?_
  refine gc_seq fun K3 hK3 => ?_
  refine gc_region ?_
  refine gl_op rfl rfl rfl (op_pure hT rfl) ?_
  refine gl_op rfl rfl rfl (op_pure hT rfl) ?_
  refine gl_op rfl rfl rfl (op_pure hT rfl) ?_
  refine gl_split (t := 11) rfl (fun c11 => ?_) (fun c11 => ?_)
  · try simp only [decide_eq_true_eq, decide_eq_false_iff_not, Bool.not_eq_true', Bool.not_eq_false', Int.not_lt, Int.not_le, Nat.not_lt, Nat.not_le, Bool.true_eq, Bool.false_eq, reduceCtorEq] at c11
    refine gl_pass rfl rfl rfl rfl rfl rfl ?_
    refine gl_pass rfl rfl rfl rfl rfl rfl ?_
    refine gl_pass rfl rfl rfl rfl rfl rfl ?_
    refine gl_pass rfl rfl rfl rfl rfl rfl ?_
    refine gl_op rfl rfl rfl (op_pure hT rfl) ?_
    refine gl_nil ?_
    refine hK3 _ _ ?_
    clear hK3; try clear K3
    refine gc_cond_t rfl ?_
    refine gc_seq fun K4 hK4 => ?_
    refine gc_region ?_
    refine gl_op rfl rfl rfl (op_pure hT rfl) ?_
    refine gl_op rfl rfl rfl (op_pure hT rfl) ?_
    refine gl_op rfl rfl rfl (op_pure hT rfl) ?_
    refine gl_nil ?_
    refine hK4 _ _ ?_
    clear hK4; try clear K4
    refine gc_ret ?_
    try simp only [x_then_ret, x_block_ret]
    refine gk_ret3 rfl rfl rfl rfl ?_
    exact ⟨none, 0, by unfold readFrameV; rw [if_pos (by omega)]; rfl, by unfold readFrameV; rw [if_pos (by omega)]; exact owns_nil, hS.below⟩
  · try simp only [decide_eq_true_eq, decide_eq_false_iff_not, Bool.not_eq_true', Bool.not_eq_false', Int.not_lt, Int.not_le, Nat.not_lt, Nat.not_le, Bool.true_eq, Bool.false_eq, reduceCtorEq] at c11
    refine gl_un rfl rfl rfl rfl ?_
    refine gl_op rfl rfl rfl (op_pure hT rfl) ?_
    refine gl_un rfl rfl rfl rfl ?_
    refine gl_op rfl rfl rfl (op_pure hT rfl) ?_
    refine gl_un rfl rfl rfl rfl ?_
    refine gl_op rfl rfl rfl (op_pure hT rfl) ?_
    refine gl_un rfl rfl rfl rfl ?_
    refine gl_op rfl rfl rfl (op_pure hT rfl) ?_
    refine gl_op rfl rfl rfl (op_pure hT rfl) ?_
    refine gl_nil ?_
    refine hK3 _ _ ?_
    clear hK3; try clear K3
    refine gc_cond rfl rfl (fun c16 => ?_) (fun c16 => ?_)
    · try simp only [decide_eq_true_eq, decide_eq_false_iff_not, Bool.not_eq_true', Bool.not_eq_false', Int.not_lt, Int.not_le, Nat.not_lt, Nat.not_le, Bool.true_eq, Bool.false_eq, reduceCtorEq] at c16
      refine gc_seq fun K5 hK5 => ?_
      refine gc_region ?_
      refine gl_op rfl rfl rfl (op_pure hT rfl) ?_
      refine gl_op rfl rfl rfl (op_pure hT rfl) ?_
      refine gl_op rfl rfl rfl (op_pure hT rfl) ?_
      refine gl_nil ?_
      refine hK5 _ _ ?_
      clear hK5; try clear K5
      refine gc_ret ?_
      try simp only [x_then_ret, x_block_ret]
      refine gk_ret3 rfl rfl rfl rfl ?_
      exact ⟨none, 0, by unfold readFrameV; rw [if_pos (by omega)]; rfl, by unfold readFrameV; rw [if_pos (by omega)]; exact owns_nil, hS.below⟩
    · try simp only [decide_eq_true_eq, decide_eq_false_iff_not, Bool.not_eq_true', Bool.not_eq_false', Int.not_lt, Int.not_le, Nat.not_lt, Nat.not_le, Bool.true_eq, Bool.false_eq, reduceCtorEq] at c16
      refine gc_skip ?_
      refine hK2 _ _ ?_
      clear hK2; try clear K2
      refine gc_seq fun K6 hK6 => ?_
      refine gc_region ?_
      refine gl_op rfl rfl rfl (op_pure hT rfl) ?_
      refine gl_op rfl rfl rfl (op_pure hT rfl) ?_
      refine gl_op rfl rfl rfl (op_slice_l hT el5 rfl rfl rfl rfl (by omega) (by omega)) ?_
      have hm := RdE.drop h1 (k := at_.toNat) (cap := c) (by omega) hc
      obtain ⟨m, hmd⟩ : ∃ m, m = l.drop at_.toNat := ⟨_, rfl⟩
      have hml : m.length = l.length - at_.toNat := by rw [hmd, List.length_drop]
      rw [← hmd] at hm
      generalize hA' : (if c = at_.toNat then A else A.map (·.add (at_.toNat * 1))) = A' at hm
      obtain ⟨c', hc'⟩ : ∃ c', c' = c - at_.toNat := ⟨_, rfl⟩
      refine gl_spell 19 (v := .slice A' m.length c') rfl (by rw [hml, hc']) ?_
      refine gl_op rfl rfl rfl (op_pure hT rfl) ?_
      refine gl_nil ?_
      refine hK6 _ _ ?_
      clear hK6; try clear K6
      refine gc_seq fun K7 hK7 => ?_
      refine gc_seq fun K8 hK8 => ?_
      refine gc_region ?_
      refine gl_op rfl rfl rfl (op_pure hT rfl) ?_
      refine gl_op rfl rfl rfl (op_pure hT rfl) ?_
      refine gl_op rfl rfl rfl (op_pure hT rfl) ?_
      refine gl_nil ?_
      refine hK8 _ _ ?_
      clear hK8; try clear K8
      refine gc_cond rfl rfl (fun c22 => ?_) (fun c22 => ?_)
      · try simp only [decide_eq_true_eq, decide_eq_false_iff_not, Bool.not_eq_true', Bool.not_eq_false', Int.not_lt, Int.not_le, Nat.not_lt, Nat.not_le, Bool.true_eq, Bool.false_eq, reduceCtorEq] at c22
        refine gc_seq fun K9 hK9 => ?_
        refine gc_region ?_
        refine gl_op rfl rfl rfl (op_pure hT rfl) ?_
        refine gl_op rfl rfl rfl (op_pure hT rfl) ?_
        refine gl_op rfl rfl rfl (op_pure hT rfl) ?_
        refine gl_nil ?_
        refine hK9 _ _ ?_
        clear hK9; try clear K9
        refine gc_ret ?_
        try simp only [x_then_ret, x_block_ret]
        refine gk_ret3 rfl rfl rfl rfl ?_
        have e1 : readFrameV l at_ = ([], 0, 10) := by unfold readFrameV; rw [if_neg (by omega)]; simp only; rw [if_pos (by rw [← hmd]; omega)]
        rw [e1]
        exact ⟨none, 0, rfl, owns_nil, hS.below⟩
      · try simp only [decide_eq_true_eq, decide_eq_false_iff_not, Bool.not_eq_true', Bool.not_eq_false', Int.not_lt, Int.not_le, Nat.not_lt, Nat.not_le, Bool.true_eq, Bool.false_eq, reduceCtorEq] at c22
        refine gc_skip ?_
        refine hK7 _ _ ?_
        clear hK7; try clear K7
        refine gc_seq fun K10 hK10 => ?_
        refine gc_seq fun K11 hK11 => ?_
        refine gc_grow (e0 := [(0, .slice A l.length c), (1, .int .i64 at_), (7, .slice A' m.length c')]) (by kernel_rfl) ⟨rfl, rfl, rfl, trivial⟩ (by kernel_rfl) (by kernel_rfl) (by kernel_rfl) ?_
        refine gg_op [] rfl rfl rfl (by kernel_rfl) (fun w1 hw1 => by have hS := hS.grown hw1; exact op_pure hT rfl) ?_
        refine gg_op [23] rfl rfl rfl (by kernel_rfl) (fun w1 hw1 => by have hS := hS.grown hw1; exact op_slice_lh hT el5 rfl rfl rfl rfl rfl (by first | omega | (simp; omega)) (by first | omega | (simp; omega)) (by first | omega | (simp; omega))) ?_
        refine gg_call [24] (.det (.int .u32 (wordV ((m.drop 4).take 4)))) (trivial) rfl rfl rfl (by kernel_rfl) rfl Tryd.func63 rfl rfl rfl (fun w1 hw1 => ?_) ?_
        · have hS := hS.grown hw1
          exact wordN_calls _ _ _ ((m.drop 4).take 4) w1 ((RdE.drop (hm.old hS) (k := 4) (cap := c') (by omega) (by omega)).take 4) (by simp; omega) (by decide)
        refine gg_op [] rfl rfl rfl (by kernel_rfl) (fun w1 hw1 => by have hS := hS.grown hw1; exact op_pure hT rfl) ?_
        refine gg_op [26] rfl rfl rfl (by kernel_rfl) (fun w1 hw1 => by have hS := hS.grown hw1; exact op_slice_h hT el5 rfl rfl rfl rfl (by first | omega | (simp; omega)) (by first | omega | (simp; omega))) ?_
        refine gg_lit [27] hT el22 rfl rfl rfl (by kernel_rfl) rfl rfl rfl rfl rfl rfl ?_
        refine gg_call1 28 [] (.det (.int .u32 (crcV (m.take 4)))) (trivial) rfl rfl rfl rfl (by kernel_rfl) rfl Tryd.func23 rfl rfl (fun w1 u hw1 hu => ?_) ?_
        · have hS := hS.grown hw1
          obtain ⟨g, rfl, hrd⟩ := hu; exact ⟨_, rfl, Sum1N_calls _ A' _ 4 c' (m.take 4) w1 hrd ((hm.old hS).take 4) (by simp; omega) (by simp; omega)⟩
        refine gg_op [25, 29] rfl rfl rfl (by kernel_rfl) (fun w1 hw1 => by have hS := hS.grown hw1; exact op_pure hT rfl) ?_
        refine gg_nil [30] fun wr6 hwr6 => ?_
        have hS := hS.grown hwr6
        refine hK11 _ _ ?_
        clear hK11; try clear K11
        refine gc_cond rfl rfl (fun c30 => ?_) (fun c30 => ?_)
        · try simp only [decide_eq_true_eq, decide_eq_false_iff_not, Bool.not_eq_true', Bool.not_eq_false', Int.not_lt, Int.not_le, Nat.not_lt, Nat.not_le, Bool.true_eq, Bool.false_eq, reduceCtorEq] at c30
          refine gc_seq fun K12 hK12 => ?_
          refine gc_region ?_
          refine gl_op rfl rfl rfl (op_pure hT rfl) ?_
          refine gl_op rfl rfl rfl (op_pure hT rfl) ?_
          refine gl_op rfl rfl rfl (op_pure hT rfl) ?_
          refine gl_nil ?_
          refine hK12 _ _ ?_
          clear hK12; try clear K12
          refine gc_ret ?_
          try simp only [x_then_ret, x_block_ret]
          refine gk_ret3 rfl rfl rfl rfl ?_
          have e1 : readFrameV l at_ = ([], 0, 16) := by unfold readFrameV; rw [if_neg (by omega)]; simp only; rw [← hmd, if_neg (by omega), if_pos (by omega)]
          rw [e1]
          exact ⟨none, 0, rfl, owns_nil, hS.below⟩
        · try simp only [decide_eq_true_eq, decide_eq_false_iff_not, Bool.not_eq_true', Bool.not_eq_false', Int.not_lt, Int.not_le, Nat.not_lt, Nat.not_le, Bool.true_eq, Bool.false_eq, reduceCtorEq] at c30
          refine gc_skip ?_
          refine hK10 _ _ ?_
          clear hK10; try clear K10
          refine gc_seq fun K13 hK13 => ?_
          refine gc_region ?_
          refine gl_op rfl rfl rfl (op_pure hT rfl) ?_
          refine gl_op rfl rfl rfl (op_slice_h hT el5 rfl rfl rfl rfl (by first | omega | (simp; omega)) (by first | omega | (simp; omega))) ?_
          refine gl_callf rfl rfl rfl rfl Tryd.func63 rfl rfl rfl (wordE_calls _ _ _ (m.take 4) _ ((hm.old hS).take 4) (by simp; omega) (by decide)) ?_
          rintro _ _ ⟨rfl, n33, rfl⟩
          refine ⟨_, rfl, ?_⟩
          have hS := hS.dr n33
          obtain ⟨n, hn⟩ : ∃ n, n = wordV (m.take 4) := ⟨_, rfl⟩
          have hnlt := wordV_lt (m.take 4)
          rw [← hn] at hnlt ⊢
          refine gl_op rfl rfl rfl (op_pure hT rfl) ?_
          refine gl_nil ?_
          refine hK13 _ _ ?_
          clear hK13; try clear K13
          refine gc_seq fun K14 hK14 => ?_
          refine gc_seq fun K15 hK15 => ?_
          refine gc_region ?_
          refine gl_op rfl rfl rfl (op_pure hT rfl) ?_
          refine gl_op rfl rfl rfl (op_pure hT rfl) ?_
          refine gl_nil ?_
          refine hK15 _ _ ?_
          clear hK15; try clear K15
          refine gc_cond rfl rfl (fun c35 => ?_) (fun c35 => ?_)
          · try simp only [decide_eq_true_eq, decide_eq_false_iff_not, Bool.not_eq_true', Bool.not_eq_false', Int.not_lt, Int.not_le, Nat.not_lt, Nat.not_le, Bool.true_eq, Bool.false_eq, reduceCtorEq] at c35
            refine gc_seq fun K16 hK16 => ?_
            refine gc_region ?_
            refine gl_op rfl rfl rfl (op_pure hT rfl) ?_
            refine gl_op rfl rfl rfl (op_pure hT rfl) ?_
            refine gl_op rfl rfl rfl (op_pure hT rfl) ?_
            refine gl_nil ?_
            refine hK16 _ _ ?_
            clear hK16; try clear K16
            refine gc_ret ?_
            try simp only [x_then_ret, x_block_ret]
            refine gk_ret3 rfl rfl rfl rfl ?_
            have e1 : readFrameV l at_ = ([], 0, 13) := by unfold readFrameV; rw [if_neg (by omega)]; simp only; rw [← hmd, if_neg (by omega), if_neg (by omega), ← hn, if_pos (by omega)]
            rw [e1]
            exact ⟨none, 0, rfl, owns_nil, hS.below⟩
          · try simp only [decide_eq_true_eq, decide_eq_false_iff_not, Bool.not_eq_true', Bool.not_eq_false', Int.not_lt, Int.not_le, Nat.not_lt, Nat.not_le, Bool.true_eq, Bool.false_eq, reduceCtorEq] at c35
            refine gc_skip ?_
            refine hK14 _ _ ?_
            clear hK14; try clear K14
            refine gc_seq fun K17 hK17 => ?_
            refine gc_seq fun K18 hK18 => ?_
            refine gc_region ?_
            refine gl_op rfl rfl rfl (op_pure hT rfl) ?_
            refine gl_op rfl rfl rfl (op_pure hT rfl) ?_
            refine gl_op rfl rfl rfl (op_pure hT rfl) ?_
            refine gl_op rfl rfl rfl (op_pure hT rfl) ?_
            refine gl_spell 39 (v := .int .i64 n) rfl (by rw [wrap_i64 (by omega)]) ?_
            first | refine gl_fit hT rfl rfl rfl rfl (by omega) ?_ | refine gl_op rfl rfl rfl (op_pure hT rfl) ?_
            refine gl_op rfl rfl rfl (op_pure hT rfl) ?_
            refine gl_nil ?_
            refine hK18 _ _ ?_
            clear hK18; try clear K18
            refine gc_cond rfl rfl (fun c41 => ?_) (fun c41 => ?_)
            · try simp only [decide_eq_true_eq, decide_eq_false_iff_not, Bool.not_eq_true', Bool.not_eq_false', Int.not_lt, Int.not_le, Nat.not_lt, Nat.not_le, Bool.true_eq, Bool.false_eq, reduceCtorEq] at c41
              refine gc_seq fun K19 hK19 => ?_
              refine gc_region ?_
              refine gl_op rfl rfl rfl (op_pure hT rfl) ?_
              refine gl_op rfl rfl rfl (op_pure hT rfl) ?_
              refine gl_op rfl rfl rfl (op_pure hT rfl) ?_
              refine gl_nil ?_
              refine hK19 _ _ ?_
              clear hK19; try clear K19
              refine gc_ret ?_
              try simp only [x_then_ret, x_block_ret]
              refine gk_ret3 rfl rfl rfl rfl ?_
              have e1 : readFrameV l at_ = ([], 0, 10) := by unfold readFrameV; rw [if_neg (by omega)]; simp only; rw [← hmd, if_neg (by omega), if_neg (by omega), ← hn, if_neg (by omega), if_pos (by omega)]
              rw [e1]
              exact ⟨none, 0, rfl, owns_nil, hS.below⟩
            · try simp only [decide_eq_true_eq, decide_eq_false_iff_not, Bool.not_eq_true', Bool.not_eq_false', Int.not_lt, Int.not_le, Nat.not_lt, Nat.not_le, Bool.true_eq, Bool.false_eq, reduceCtorEq] at c41
              refine gc_skip ?_
              refine hK17 _ _ ?_
              clear hK17; try clear K17
              refine gc_seq fun K20 hK20 => ?_
              refine gc_seq fun K21 hK21 => ?_
              refine gc_grow (e0 := [(0, .slice A l.length c), (1, .int .i64 at_), (7, .slice A' m.length c'), (8, .int .u32 n)]) (by kernel_rfl) ⟨rfl, rfl, rfl, rfl, trivial⟩ (by kernel_rfl) (by kernel_rfl) (by kernel_rfl) ?_
              refine gg_op [] rfl rfl rfl (by kernel_rfl) (fun w1 hw1 => by have hS := hS.grown hw1; exact op_pure hT rfl) ?_
              refine gg_op [] rfl rfl rfl (by kernel_rfl) (fun w1 hw1 => by have hS := hS.grown hw1; exact op_pure hT rfl) ?_
              refine gg_op [43] rfl rfl rfl (by kernel_rfl) (fun w1 hw1 => by have hS := hS.grown hw1; exact op_pure hT rfl) ?_
              refine gg_spell (v := .int .u32 (8 + n : Nat)) (by rw [IntKind.wrap_u32, Int.emod_eq_of_lt (by omega) (by omega)]; rfl) ?_
              refine gg_op [] rfl rfl rfl (by kernel_rfl) (fun w1 hw1 => by have hS := hS.grown hw1; exact op_pure hT rfl) ?_
              refine gg_op [45] rfl rfl rfl (by kernel_rfl) (fun w1 hw1 => by have hS := hS.grown hw1; exact op_pure hT rfl) ?_
              refine gg_spell (v := .int .u32 (12 + n : Nat)) (by rw [IntKind.wrap_u32, Int.emod_eq_of_lt (by omega) (by omega)]; rfl) ?_
              refine gg_op [42, 44, 46] rfl rfl rfl (by kernel_rfl) (fun w1 hw1 => by have hS := hS.grown hw1; exact op_slice_lh hT el5 rfl rfl rfl rfl rfl (by first | omega | (simp; omega)) (by first | omega | (simp; omega)) (by first | omega | (simp; omega))) ?_
              refine gg_call [47] (.det (.int .u32 (wordV ((m.drop (8 + n)).take 4)))) (trivial) rfl rfl rfl (by kernel_rfl) rfl Tryd.func63 rfl rfl rfl (fun w1 hw1 => ?_) ?_
              · have hS := hS.grown hw1
                exact wordN_calls _ _ _ ((m.drop (8 + n)).take 4) w1 ((RdE.drop (hm.old hS) (k := 8 + n) (cap := c') (by omega) (by omega)).take 4) (by simp; omega) (by omega)
              refine gg_op [] rfl rfl rfl (by kernel_rfl) (fun w1 hw1 => by have hS := hS.grown hw1; exact op_pure hT rfl) ?_
              refine gg_op [] rfl rfl rfl (by kernel_rfl) (fun w1 hw1 => by have hS := hS.grown hw1; exact op_pure hT rfl) ?_
              refine gg_op [50] rfl rfl rfl (by kernel_rfl) (fun w1 hw1 => by have hS := hS.grown hw1; exact op_pure hT rfl) ?_
              refine gg_spell (v := .int .u32 (8 + n : Nat)) (by rw [IntKind.wrap_u32, Int.emod_eq_of_lt (by omega) (by omega)]; rfl) ?_
              refine gg_op [49, 51] rfl rfl rfl (by kernel_rfl) (fun w1 hw1 => by have hS := hS.grown hw1; exact op_slice_lh hT el5 rfl rfl rfl rfl rfl (by first | omega | (simp; omega)) (by first | omega | (simp; omega)) (by first | omega | (simp; omega))) ?_
              refine gg_lit [52] hT el22 rfl rfl rfl (by kernel_rfl) rfl rfl rfl rfl rfl rfl ?_
              refine gg_call1 53 [] (.det (.int .u32 (crcV ((m.drop 8).take n)))) (trivial) rfl rfl rfl rfl (by kernel_rfl) rfl Tryd.func23 rfl rfl (fun w1 u hw1 hu => ?_) ?_
              · have hS := hS.grown hw1
                obtain ⟨g, rfl, hrd⟩ := hu; exact ⟨_, rfl, Sum1N_calls _ _ _ _ (c' - 8) ((m.drop 8).take n) w1 hrd ((RdE.drop (hm.old hS) (k := 8) (cap := c') (by omega) (by omega)).take n) (by simp; omega) (by simp; omega)⟩
              refine gg_op [48, 54] rfl rfl rfl (by kernel_rfl) (fun w1 hw1 => by have hS := hS.grown hw1; exact op_pure hT rfl) ?_
              refine gg_nil [55] fun wr13 hwr13 => ?_
              have hS := hS.grown hwr13
              refine hK21 _ _ ?_
              clear hK21; try clear K21
              refine gc_cond rfl rfl (fun c55 => ?_) (fun c55 => ?_)
              · try simp only [decide_eq_true_eq, decide_eq_false_iff_not, Bool.not_eq_true', Bool.not_eq_false', Int.not_lt, Int.not_le, Nat.not_lt, Nat.not_le, Bool.true_eq, Bool.false_eq, reduceCtorEq] at c55
                refine gc_seq fun K22 hK22 => ?_
                refine gc_region ?_
                refine gl_op rfl rfl rfl (op_pure hT rfl) ?_
                refine gl_op rfl rfl rfl (op_pure hT rfl) ?_
                refine gl_op rfl rfl rfl (op_pure hT rfl) ?_
                refine gl_nil ?_
                refine hK22 _ _ ?_
                clear hK22; try clear K22
                refine gc_ret ?_
                try simp only [x_then_ret, x_block_ret]
                refine gk_ret3 rfl rfl rfl rfl ?_
                have e1 : readFrameV l at_ = ([], 0, 16) := by unfold readFrameV; rw [if_neg (by omega)]; simp only; rw [← hmd, if_neg (by omega), if_neg (by omega), ← hn, if_neg (by omega), if_neg (by omega), if_pos (by omega)]
                rw [e1]
                exact ⟨none, 0, rfl, owns_nil, hS.below⟩
              · try simp only [decide_eq_true_eq, decide_eq_false_iff_not, Bool.not_eq_true', Bool.not_eq_false', Int.not_lt, Int.not_le, Nat.not_lt, Nat.not_le, Bool.true_eq, Bool.false_eq, reduceCtorEq] at c55
                refine gc_skip ?_
                refine hK20 _ _ ?_
                clear hK20; try clear K20
                refine gc_seq fun K23 hK23 => ?_
                refine gc_region ?_
                refine gl_op rfl rfl rfl (op_pure hT rfl) ?_
                refine gl_op rfl rfl rfl (op_pure hT rfl) ?_
                refine gl_op rfl rfl rfl (op_pure hT rfl) ?_
                refine gl_spell 58 (v := .int .u32 (8 + n : Nat)) rfl (by rw [IntKind.wrap_u32, Int.emod_eq_of_lt (by omega) (by omega)]; rfl) ?_
                refine gl_op rfl rfl rfl (op_slice_lh hT el5 rfl rfl rfl rfl rfl (by first | omega | (simp; omega)) (by first | omega | (simp; omega)) (by first | omega | (simp; omega))) ?_
                have hx : ((8 + n : Nat) : Int).toNat - (8 : Int).toNat = n := by omega
                rw [hx]
                refine gl_callf rfl rfl rfl rfl Tryd.func64 rfl rfl rfl (Clone_calls _ n (c' - 8) ((m.drop 8).take n) _ ((RdE.drop (hm.old hS) (k := 8) (cap := c') (by omega) (by omega)).pre (k := n) (by simp; omega)) (by omega)) ?_
                rintro _ w60 ⟨A60, c60, rfl, hr60, hb60⟩
                refine ⟨_, rfl, ?_⟩
                have hS := hS.addRow hb60 hr60
                refine gl_callf rfl rfl rfl rfl Tryd.func51 rfl rfl rfl (Clip_calls _ _ _ (hS.cap (i := 0) rfl).1 _) ?_
                rintro _ _ ⟨rfl, n61, rfl⟩
                refine ⟨_, rfl, ?_⟩
                have hS := hS.dr n61
                refine gl_op rfl rfl rfl (op_pure hT rfl) ?_
                first | refine gl_fit hT rfl rfl rfl rfl (by omega) ?_ | refine gl_op rfl rfl rfl (op_pure hT rfl) ?_
                refine gl_op rfl rfl rfl (op_pure hT rfl) ?_
                refine gl_op rfl rfl rfl (op_pure hT rfl) ?_
                refine gl_spell 65 (v := .int .i64 n) rfl (by rw [wrap_i64 (by omega)]) ?_
                first | refine gl_fit hT rfl rfl rfl rfl (by omega) ?_ | refine gl_op rfl rfl rfl (op_pure hT rfl) ?_
                refine gl_op rfl rfl rfl (op_pure hT rfl) ?_
                refine gl_op rfl rfl rfl (op_pure hT rfl) ?_
                refine gl_op rfl rfl rfl (op_pure hT rfl) ?_
                refine gl_nil ?_
                refine hK23 _ _ ?_
                clear hK23; try clear K23
                refine gc_ret ?_
                try simp only [x_then_ret, x_block_ret]
                refine gk_ret3 rfl rfl rfl rfl ?_
                have e1 : readFrameV l at_ = ((m.drop 8).take n, at_ + 12 + (n : Int), 0) := by unfold readFrameV; rw [if_neg (by omega)]; simp only; rw [← hmd, if_neg (by omega), if_neg (by omega), ← hn, if_neg (by omega), if_neg (by omega), if_neg (by omega)]
                have e2 : ((m.drop 8).take n).length = n := by simp; omega
                rw [e1]
                simp only [e2]
                obtain ⟨h2, h3⟩ := hS.out (i := 0) rfl
                exact ⟨A60, n, rfl, h2.clip (Nat.le_refl _) h2.cap.1, h3⟩
end Go.Proofs.YtpeomdobcobdiaaDoor
