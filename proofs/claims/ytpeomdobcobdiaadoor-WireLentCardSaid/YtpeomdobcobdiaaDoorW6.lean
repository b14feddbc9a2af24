/- Contracts of frames. No condition. -/
import Derived.Test.YtpeomdobcobdiaaDoorW5
namespace Go.Proofs.YtpeomdobcobdiaaDoor
open Go.RowKit
set_option linter.unusedVariables false
set_option linter.unusedSimpArgs false
theorem four_calls (v : Nat) (hv : v < 4294967296) (w : World) :
    Calls Tryd.prog 60 ⟨[.int .u32 v]⟩ w fun e w' => ∃ A c, e = .returned (.slice A (le4 v).length c) ∧ Owns w' w.heap.size A c 5 1 (le4 v).length ((le4 v).map uB) ∧ Below w.heap.size w w' := by
  refine gc_enter (N := 15) Tryd.func60 rfl rfl rfl [(0, _)] rfl ?_
  have hS := St.start w
  refine gc_seq fun K1 hK1 => ?_
  refine gc_region ?_
  refine gl_op rfl rfl rfl (op_pure hT rfl) ?_
  refine gl_nil ?_
  refine hK1 _ _ ?_
  clear hK1; try clear K1
  refine gc_seq fun K2 hK2 => ?_
  refine gc_region ?_
  refine gl_op rfl rfl rfl (op_pure hT rfl) ?_
  refine gl_op rfl rfl rfl (op_pure hT rfl) ?_
  refine gl_op rfl rfl rfl (op_pure hT rfl) ?_
  refine gl_op rfl rfl rfl (op_pure hT rfl) ?_
  refine gl_op rfl rfl rfl (op_pure hT rfl) ?_
  refine gl_op rfl rfl rfl (op_pure hT rfl) ?_
  refine gl_op rfl rfl rfl (op_pure hT rfl) ?_
  refine gl_op rfl rfl rfl (op_pure hT rfl) ?_
  refine gl_op rfl rfl rfl (op_pure hT rfl) ?_
  refine gl_op rfl rfl rfl (op_pure hT rfl) ?_
  refine gl_op rfl rfl rfl (op_pure hT rfl) ?_
  refine gl_lit hT hS el5 rfl rfl rfl rfl rfl rfl rfl rfl rfl fun g14 w14 hS => ?_
  refine gl_op rfl rfl rfl (op_pure hT rfl) ?_
  refine gl_nil ?_
  refine hK2 _ _ ?_
  clear hK2; try clear K2
  refine gc_ret ?_
  try simp only [x_then_ret, x_block_ret]
  refine gk_ret1 rfl rfl ?_
  obtain ⟨h2, h3⟩ := hS.out (i := 0) rfl
  have e1 := u8_wrap v
  have e2 := u8_wrap (v / 256)
  have e3 := u8_wrap (v / 65536)
  have e4 := u8_wrap (v / 16777216)
  simp only [Int.natCast_ediv] at e2 e3 e4
  have e5 : [Value.int .u8 (IntKind.u8.wrap v), .int .u8 (IntKind.u8.wrap ((v : Int) / 2 ^ 8)), .int .u8 (IntKind.u8.wrap ((v : Int) / 2 ^ 16)), .int .u8 (IntKind.u8.wrap ((v : Int) / 2 ^ 24))] = (le4 v).map uB := by
    simp only [le4, List.map_cons, List.map_nil]
    rw [← e1, ← e2, ← e3, ← e4]
    rfl
  have h4 : Owns w14 w.heap.size (some ⟨g14, 0, none⟩) 4 5 1 4 [Value.int .u8 (IntKind.u8.wrap v), .int .u8 (IntKind.u8.wrap ((v : Int) / 2 ^ 8)), .int .u8 (IntKind.u8.wrap ((v : Int) / 2 ^ 16)), .int .u8 (IntKind.u8.wrap ((v : Int) / 2 ^ 24))] := h2
  rw [e5] at h4
  exact ⟨_, _, rfl, h4, h3⟩
theorem rfour_calls (v : Nat) (hv : v < 4294967296) (w : World) :
    Calls Tryd.prog 62 ⟨[.int .u32 v]⟩ w fun e w' => ∃ A c, e = .returned (.slice A (le4 v).length c) ∧ Owns w' w.heap.size A c 5 1 (le4 v).length ((le4 v).map uB) ∧ Below w.heap.size w w' := by
  refine gc_enter (N := 15) Tryd.func62 rfl rfl rfl [(0, _)] rfl ?_
  have hS := St.start w
  refine gc_seq fun K1 hK1 => ?_
  refine gc_region ?_
  refine gl_op rfl rfl rfl (op_pure hT rfl) ?_
  refine gl_nil ?_
  refine hK1 _ _ ?_
  clear hK1; try clear K1
  refine gc_seq fun K2 hK2 => ?_
  refine gc_region ?_
  refine gl_op rfl rfl rfl (op_pure hT rfl) ?_
  refine gl_op rfl rfl rfl (op_pure hT rfl) ?_
  refine gl_op rfl rfl rfl (op_pure hT rfl) ?_
  refine gl_op rfl rfl rfl (op_pure hT rfl) ?_
  refine gl_op rfl rfl rfl (op_pure hT rfl) ?_
  refine gl_op rfl rfl rfl (op_pure hT rfl) ?_
  refine gl_op rfl rfl rfl (op_pure hT rfl) ?_
  refine gl_op rfl rfl rfl (op_pure hT rfl) ?_
  refine gl_op rfl rfl rfl (op_pure hT rfl) ?_
  refine gl_op rfl rfl rfl (op_pure hT rfl) ?_
  refine gl_op rfl rfl rfl (op_pure hT rfl) ?_
  refine gl_lit hT hS el5 rfl rfl rfl rfl rfl rfl rfl rfl rfl fun g14 w14 hS => ?_
  refine gl_op rfl rfl rfl (op_pure hT rfl) ?_
  refine gl_nil ?_
  refine hK2 _ _ ?_
  clear hK2; try clear K2
  refine gc_ret ?_
  try simp only [x_then_ret, x_block_ret]
  refine gk_ret1 rfl rfl ?_
  obtain ⟨h2, h3⟩ := hS.out (i := 0) rfl
  have e1 := u8_wrap v
  have e2 := u8_wrap (v / 256)
  have e3 := u8_wrap (v / 65536)
  have e4 := u8_wrap (v / 16777216)
  simp only [Int.natCast_ediv] at e2 e3 e4
  have e5 : [Value.int .u8 (IntKind.u8.wrap v), .int .u8 (IntKind.u8.wrap ((v : Int) / 2 ^ 8)), .int .u8 (IntKind.u8.wrap ((v : Int) / 2 ^ 16)), .int .u8 (IntKind.u8.wrap ((v : Int) / 2 ^ 24))] = (le4 v).map uB := by
    simp only [le4, List.map_cons, List.map_nil]
    rw [← e1, ← e2, ← e3, ← e4]
    rfl
  have h4 : Owns w14 w.heap.size (some ⟨g14, 0, none⟩) 4 5 1 4 [Value.int .u8 (IntKind.u8.wrap v), .int .u8 (IntKind.u8.wrap ((v : Int) / 2 ^ 8)), .int .u8 (IntKind.u8.wrap ((v : Int) / 2 ^ 16)), .int .u8 (IntKind.u8.wrap ((v : Int) / 2 ^ 24))] := h2
  rw [e5] at h4
  exact ⟨_, _, rfl, h4, h3⟩
theorem Grow_calls (n : Nat) (hn : n ≤ 140737488355328) (w : World) :
    Calls Tryd.prog 67 ⟨[.slice none 0 0, .int .i64 n]⟩ w fun e w' => ∃ A c, e = .returned (.slice A 0 c) ∧ Owns w' w.heap.size A c 5 1 0 [] ∧ Below w.heap.size w w' := by
  refine gc_enter (N := 27) Tryd.func67 rfl rfl rfl [(0, _), (1, _)] rfl ?_
  have hS := St.start w
  refine gc_seq fun K1 hK1 => ?_
  refine gc_region ?_
  refine gl_op rfl rfl rfl (op_pure hT rfl) ?_
  refine gl_nil ?_
  refine hK1 _ _ ?_
  clear hK1; try clear K1
  refine gc_seq fun K2 hK2 => ?_
  refine gc_seq fun K3 hK3 => ?_
  refine gc_region ?_
  refine gl_op rfl rfl rfl (op_pure hT rfl) ?_
  refine gl_op rfl rfl rfl (op_pure hT rfl) ?_
  refine gl_nil ?_
  refine hK3 _ _ ?_
  clear hK3; try clear K3
  refine gc_cond rfl rfl (fun c6 => ?_) (fun c6 => ?_)
  · try simp only [decide_eq_true_eq, decide_eq_false_iff_not, Bool.not_eq_true', Bool.not_eq_false', Int.not_lt, Int.not_le, Nat.not_lt, Nat.not_le, Bool.true_eq, Bool.false_eq, reduceCtorEq] at c6
    omega
  · try simp only [decide_eq_true_eq, decide_eq_false_iff_not, Bool.not_eq_true', Bool.not_eq_false', Int.not_lt, Int.not_le, Nat.not_lt, Nat.not_le, Bool.true_eq, Bool.false_eq, reduceCtorEq] at c6
    refine gc_skip ?_
    refine hK2 _ _ ?_
    clear hK2; try clear K2
    refine gc_seq fun K4 hK4 => ?_
    refine gc_seq fun K5 hK5 => ?_
    refine gc_region ?_
    refine gl_op rfl rfl rfl (op_pure hT rfl) ?_
    refine gl_op rfl rfl rfl (op_pure hT rfl) ?_
    refine gl_op rfl rfl rfl (op_pure hT rfl) ?_
    refine gl_op rfl rfl rfl (op_pure hT rfl) ?_
    refine gl_op rfl rfl rfl (op_pure hT rfl) ?_
    first | refine gl_fit hT rfl rfl rfl rfl (by omega) ?_ | refine gl_op rfl rfl rfl (op_pure hT rfl) ?_
    refine gl_op rfl rfl rfl (op_pure hT rfl) ?_
    refine gl_spell 14 (v := .int .i64 n) rfl (by rw [wrap_i64 (by omega)]; simp) ?_
    refine gl_op rfl rfl rfl (op_pure hT rfl) ?_
    refine gl_nil ?_
    refine hK5 _ _ ?_
    clear hK5; try clear K5
    refine gc_seq fun K6 hK6 => ?_
    refine gc_region ?_
    refine gl_op rfl rfl rfl (op_pure hT rfl) ?_
    refine gl_op rfl rfl rfl (op_pure hT rfl) ?_
    refine gl_nil ?_
    refine hK6 _ _ ?_
    clear hK6; try clear K6
    refine gc_cond rfl rfl (fun c16 => ?_) (fun c16 => ?_)
    · try simp only [decide_eq_true_eq, decide_eq_false_iff_not, Bool.not_eq_true', Bool.not_eq_false', Int.not_lt, Int.not_le, Nat.not_lt, Nat.not_le, Bool.true_eq, Bool.false_eq, reduceCtorEq] at c16
      refine gc_region ?_
      refine gl_op rfl rfl rfl (op_pure hT rfl) ?_
      refine gl_op rfl rfl rfl (op_pure hT rfl) ?_
      refine gl_op rfl rfl rfl (op_pure hT rfl) ?_
      refine gl_op rfl rfl rfl (op_slice_h hT el5 rfl rfl rfl rfl (by first | omega | (simp; omega)) (by first | omega | (simp; omega))) ?_
      refine gl_op rfl rfl rfl (op_pure hT rfl) ?_
      refine gl_room hT hS el5 rfl rfl rfl rfl rfl rfl rfl rfl (by omega) (by decide) (by omega) (by omega) fun A22 c22 w22 hS => ?_
      refine gl_op rfl rfl rfl (op_pure hT rfl) ?_
      refine gl_op rfl rfl rfl (op_pure hT rfl) ?_
      have hS := hS.cut0 (i := 0) rfl 0 (by omega)
      refine gl_op rfl rfl rfl (op_slice_h hT el5 rfl rfl rfl rfl (by omega) (by omega)) ?_
      refine gl_op rfl rfl rfl (op_pure hT rfl) ?_
      refine gl_nil ?_
      refine hK4 _ _ ?_
      clear hK4; try clear K4
      refine gc_seq fun K7 hK7 => ?_
      refine gc_region ?_
      refine gl_op rfl rfl rfl (op_pure hT rfl) ?_
      refine gl_op rfl rfl rfl (op_pure hT rfl) ?_
      refine gl_nil ?_
      refine hK7 _ _ ?_
      clear hK7; try clear K7
      refine gc_ret ?_
      try simp only [x_then_ret, x_block_ret]
      refine gk_ret1 rfl rfl ?_
      obtain ⟨h2, h3⟩ := hS.out (i := 0) rfl
      exact ⟨_, _, rfl, by simpa using h2, h3⟩
    · try simp only [decide_eq_true_eq, decide_eq_false_iff_not, Bool.not_eq_true', Bool.not_eq_false', Int.not_lt, Int.not_le, Nat.not_lt, Nat.not_le, Bool.true_eq, Bool.false_eq, reduceCtorEq] at c16
      refine gc_skip ?_
      refine hK4 _ _ ?_
      clear hK4; try clear K4
      refine gc_seq fun K8 hK8 => ?_
      refine gc_region ?_
      refine gl_op rfl rfl rfl (op_pure hT rfl) ?_
      refine gl_op rfl rfl rfl (op_pure hT rfl) ?_
      refine gl_nil ?_
      refine hK8 _ _ ?_
      clear hK8; try clear K8
      refine gc_ret ?_
      try simp only [x_then_ret, x_block_ret]
      refine gk_ret1 rfl rfl ?_
      exact ⟨none, 0, rfl, ⟨rfl, .inl ⟨rfl, rfl, rfl⟩⟩, hS.below⟩
theorem flat_take (D : List (List UInt8)) (i : Nat) (h : i < D.length) : (D.take (i + 1)).flatten = (D.take i).flatten ++ D.getD i [] := by
  rw [List.take_add_one, List.flatten_append, List.getElem?_eq_getElem h, List.getD_eq_getElem?_getD, List.getElem?_eq_getElem h]; simp
theorem flat_take_le (D : List (List UInt8)) (i : Nat) : (D.take i).flatten.length ≤ D.flatten.length := by
  conv => rhs; rw [← List.take_append_drop i D]
  rw [List.flatten_append, List.length_append]; omega
theorem Concat_calls (A : Option Addr) (c : Nat) (S : List Sl) (D : List (List UInt8)) (w : World) {ok : Nat → Prop} (h1 : RdE w ok sV A S) (hp : Parts w S D) (hb : S.length ≤ 1048576) (hl : D.flatten.length ≤ 140737488355328) :
    Calls Tryd.prog 61 ⟨[.slice A S.length c]⟩ w fun e w' => ∃ A' c', e = .returned (.slice A' D.flatten.length c') ∧ Owns w' w.heap.size A' c' 5 1 D.flatten.length (D.flatten.map uB) ∧ Below w.heap.size w w' := by
  refine gc_enter (N := 36) Tryd.func61 rfl rfl rfl [(0, _)] rfl ?_
  have hS := St.start w
  refine gc_seq fun K1 hK1 => ?_
  refine gc_region ?_
  refine gl_op rfl rfl rfl (op_pure hT rfl) ?_
  refine gl_nil ?_
  refine hK1 _ _ ?_
  clear hK1; try clear K1
  refine gc_seq fun K2 hK2 => ?_
  refine gc_region ?_
  refine gl_op rfl rfl rfl (op_pure hT rfl) ?_
  refine gl_nil ?_
  refine hK2 _ _ ?_
  clear hK2; try clear K2
  refine gc_seq fun K3 hK3 => ?_
  refine gc_seq fun K4 hK4 => ?_
  refine gc_region ?_
  refine gl_op rfl rfl rfl (op_pure hT rfl) ?_
  refine gl_op rfl rfl rfl (op_pure hT rfl) ?_
  refine gl_op rfl rfl rfl (op_pure hT rfl) ?_
  refine gl_nil ?_
  refine hK4 _ _ ?_
  clear hK4; try clear K4
  refine gc_block ?_
  have hD := hp.1
  refine gc_loop (fun k a w' => ∃ i : Nat, Fr 36 a [(0, .slice A S.length c), (3, .int .i64 ((D.take i).flatten.length : Nat)), (9, .slice A S.length c), (10, .int .i64 S.length), (11, .int .i64 i)] ∧ i ≤ S.length ∧ k = S.length - i + 1 ∧ w = w') (S.length + 1) ?_ ?_ ?_
  · intro a ha; exact ⟨0, ha.sub ⟨rfl, rfl, rfl, rfl, rfl, trivial⟩, by omega, by omega, rfl⟩
  · rintro a w ⟨i, _, h1, h2, _⟩; omega
  rintro k a _ ⟨i, hF, hi, hk, rfl⟩
  refine gc_of hF ?_
  have hft := flat_take_le D i
  have hft2 := flat_take_le D (i + 1)
  refine gc_seq fun K5 hK5 => ?_
  refine gc_region ?_
  refine gl_op rfl rfl rfl (op_pure hT rfl) ?_
  refine gl_nil ?_
  refine hK5 _ _ ?_
  clear hK5; try clear K5
  refine gc_seq fun K6 hK6 => ?_
  refine gc_cond rfl rfl (fun c12 => ?_) (fun c12 => ?_)
  · try simp only [decide_eq_true_eq, decide_eq_false_iff_not, Bool.not_eq_true', Bool.not_eq_false', Int.not_lt, Int.not_le, Nat.not_lt, Nat.not_le, Bool.true_eq, Bool.false_eq, reduceCtorEq] at c12
    refine gc_skip ?_
    refine hK6 _ _ ?_
    clear hK6; try clear K6
    refine gc_seq fun K7 hK7 => ?_
    refine gc_block ?_
    refine gc_seq fun K8 hK8 => ?_
    refine gc_region ?_
    refine gl_ix sl0 hT h1 rfl rfl rfl rfl rfl el22.cellsOf.1 el22.cellsOf.2 rfl (by simp) rfl (by omega) (by first | omega | (simp; omega)) fun p13 hp13 => ?_
    have hpi := hp.2 i (by omega)
    have hst : (S.getD ((i : Int)).toNat sl0) = S.getD i sl0 := by simp
    rw [hst] at hp13
    have hfe := congrArg List.length (flat_take D i (by omega))
    rw [List.length_append] at hfe
    refine gl_op rfl rfl rfl (op_load hT rfl rfl rfl rfl hp13) ?_
    refine gl_op rfl rfl rfl (op_pure hT rfl) ?_
    refine gl_nil ?_
    refine hK8 _ _ ?_
    clear hK8; try clear K8
    refine gc_seq fun K9 hK9 => ?_
    refine gc_region ?_
    refine gl_op rfl rfl rfl (op_pure hT rfl) ?_
    refine gl_op rfl rfl rfl (op_pure hT rfl) ?_
    refine gl_op rfl rfl rfl (op_pure hT rfl) ?_
    refine gl_op rfl rfl rfl (op_pure hT rfl) ?_
    refine gl_spell 18 (v := .int .i64 ((D.take (i + 1)).flatten.length : Nat)) rfl (by rw [hpi.1, wrap_i64 (by omega), hfe]; push_cast; rfl) ?_
    refine gl_op rfl rfl rfl (op_pure hT rfl) ?_
    refine gl_nil ?_
    refine hK9 _ _ ?_
    clear hK9; try clear K9
    refine gc_seq fun K10 hK10 => ?_
    refine gc_region ?_
    refine gl_op rfl rfl rfl (op_pure hT rfl) ?_
    refine gl_op rfl rfl rfl (op_pure hT rfl) ?_
    refine gl_nil ?_
    refine hK10 _ _ ?_
    clear hK10; try clear K10
    refine gc_cond rfl rfl (fun c20 => ?_) (fun c20 => ?_)
    · try simp only [decide_eq_true_eq, decide_eq_false_iff_not, Bool.not_eq_true', Bool.not_eq_false', Int.not_lt, Int.not_le, Nat.not_lt, Nat.not_le, Bool.true_eq, Bool.false_eq, reduceCtorEq] at c20
      omega
    · try simp only [decide_eq_true_eq, decide_eq_false_iff_not, Bool.not_eq_true', Bool.not_eq_false', Int.not_lt, Int.not_le, Nat.not_lt, Nat.not_le, Bool.true_eq, Bool.false_eq, reduceCtorEq] at c20
      refine gc_skip ?_
      refine hK7 _ _ ?_
      clear hK7; try clear K7
      refine gc_region ?_
      first | refine gl_fit hT rfl rfl rfl rfl (by omega) ?_ | refine gl_op rfl rfl rfl (op_pure hT rfl) ?_
      refine gl_op rfl rfl rfl (op_pure hT rfl) ?_
      refine gl_nil ?_
      intro a ha
      exact ⟨i + 1, ha.sub ⟨rfl, rfl, rfl, rfl, rfl, trivial⟩, by omega, by omega, rfl⟩
  · try simp only [decide_eq_true_eq, decide_eq_false_iff_not, Bool.not_eq_true', Bool.not_eq_false', Int.not_lt, Int.not_le, Nat.not_lt, Nat.not_le, Bool.true_eq, Bool.false_eq, reduceCtorEq] at c12
    refine gc_exit ?_
    refine hK3 _ _ ?_
    clear hK3; try clear K3
    refine gc_seq fun K11 hK11 => ?_
    refine gc_region ?_
    refine gl_op rfl rfl rfl (op_pure hT rfl) ?_
    have hie : i = S.length := by omega
    have hfl : D.take i = D := by rw [hie, hD, List.take_length]
    rw [hfl]
    refine gl_callf rfl rfl rfl rfl Tryd.func67 rfl rfl rfl (Grow_calls _ hl _) ?_
    rintro _ w24 ⟨A24, c24, rfl, hr24, hb24⟩
    refine ⟨_, rfl, ?_⟩
    have hS := hS.addRow hb24 hr24
    refine gl_op rfl rfl rfl (op_pure hT rfl) ?_
    refine gl_nil ?_
    refine hK11 _ _ ?_
    clear hK11; try clear K11
    refine gc_seq fun K12 hK12 => ?_
    refine gc_seq fun K13 hK13 => ?_
    refine gc_region ?_
    refine gl_op rfl rfl rfl (op_pure hT rfl) ?_
    refine gl_op rfl rfl rfl (op_pure hT rfl) ?_
    refine gl_op rfl rfl rfl (op_pure hT rfl) ?_
    refine gl_nil ?_
    refine hK13 _ _ ?_
    clear hK13; try clear K13
    refine gc_block ?_
    refine gc_loop (fun k a w' => ∃ (i : Nat) (A' : Option Addr) (c' : Nat), Fr 36 a [(0, .slice A S.length c), (6, .slice A' (D.take i).flatten.length c'), (25, .slice A S.length c), (26, .int .i64 S.length), (27, .int .i64 i)] ∧ i ≤ S.length ∧ k = S.length - i + 1 ∧
      St w.heap.size w w' [.row A' c' 5 1 (D.take i).flatten.length ((D.take i).flatten.map uB)]) (S.length + 1) ?_ ?_ ?_
    · intro a ha; exact ⟨0, _, _, ha.sub ⟨rfl, rfl, rfl, rfl, rfl, trivial⟩, by omega, by omega, hS⟩
    · rintro a w ⟨i, _, _, _, h1, h2, _⟩; omega
    rintro k a w1 ⟨i, A', c', hF, hi, hk, hS⟩
    refine gc_of hF ?_
    have hft := flat_take_le D i
    have hft2 := flat_take_le D (i + 1)
    refine gc_seq fun K14 hK14 => ?_
    refine gc_region ?_
    refine gl_op rfl rfl rfl (op_pure hT rfl) ?_
    refine gl_nil ?_
    refine hK14 _ _ ?_
    clear hK14; try clear K14
    refine gc_seq fun K15 hK15 => ?_
    refine gc_cond rfl rfl (fun c28 => ?_) (fun c28 => ?_)
    · try simp only [decide_eq_true_eq, decide_eq_false_iff_not, Bool.not_eq_true', Bool.not_eq_false', Int.not_lt, Int.not_le, Nat.not_lt, Nat.not_le, Bool.true_eq, Bool.false_eq, reduceCtorEq] at c28
      refine gc_skip ?_
      refine hK15 _ _ ?_
      clear hK15; try clear K15
      refine gc_seq fun K16 hK16 => ?_
      refine gc_block ?_
      refine gc_seq fun K17 hK17 => ?_
      refine gc_region ?_
      refine gl_ix sl0 hT (h1.old hS) rfl rfl rfl rfl rfl el22.cellsOf.1 el22.cellsOf.2 rfl (by simp) rfl (by omega) (by first | omega | (simp; omega)) fun p29 hp29 => ?_
      have hpi := hp.2 i (by omega)
      have hst : (S.getD ((i : Int)).toNat sl0) = S.getD i sl0 := by simp
      rw [hst] at hp29
      have hfe := congrArg List.length (flat_take D i (by omega))
      rw [List.length_append] at hfe
      refine gl_op rfl rfl rfl (op_load hT rfl rfl rfl rfl hp29) ?_
      refine gl_op rfl rfl rfl (op_pure hT rfl) ?_
      refine gl_nil ?_
      refine hK17 _ _ ?_
      clear hK17; try clear K17
      refine gc_region ?_
      refine gl_op rfl rfl rfl (op_pure hT rfl) ?_
      refine gl_op rfl rfl rfl (op_pure hT rfl) ?_
      have hrd : Rd w1 All (S.getD i sl0).1 (S.getD i sl0).2.1 1 ((D.getD i []).map uB) := by rw [hpi.1]; exact hpi.2.2.old hS
      refine gl_append 0 hT hS el5 hrd (allOne_uB _) rfl rfl rfl rfl rfl rfl rfl rfl (by omega) (by omega) fun A33 c33 w33 hS => ?_
      rw [hpi.1, ← hfe, ← List.map_append, ← flat_take D i (by omega)] at hS
      refine gl_spell 33 (v := .slice A33 (D.take (i + 1)).flatten.length c33) rfl (by rw [hpi.1, hfe]) ?_
      refine gl_op rfl rfl rfl (op_pure hT rfl) ?_
      refine gl_nil ?_
      refine hK16 _ _ ?_
      clear hK16; try clear K16
      refine gc_region ?_
      first | refine gl_fit hT rfl rfl rfl rfl (by omega) ?_ | refine gl_op rfl rfl rfl (op_pure hT rfl) ?_
      refine gl_op rfl rfl rfl (op_pure hT rfl) ?_
      refine gl_nil ?_
      intro a ha
      exact ⟨i + 1, _, _, ha.sub ⟨rfl, rfl, rfl, rfl, rfl, trivial⟩, by omega, by omega, hS⟩
    · try simp only [decide_eq_true_eq, decide_eq_false_iff_not, Bool.not_eq_true', Bool.not_eq_false', Int.not_lt, Int.not_le, Nat.not_lt, Nat.not_le, Bool.true_eq, Bool.false_eq, reduceCtorEq] at c28
      refine gc_exit ?_
      refine hK12 _ _ ?_
      clear hK12; try clear K12
      refine gc_seq fun K18 hK18 => ?_
      refine gc_region ?_
      refine gl_op rfl rfl rfl (op_pure hT rfl) ?_
      refine gl_op rfl rfl rfl (op_pure hT rfl) ?_
      refine gl_nil ?_
      refine hK18 _ _ ?_
      clear hK18; try clear K18
      refine gc_ret ?_
      try simp only [x_then_ret, x_block_ret]
      refine gk_ret1 rfl rfl ?_
      have hie : i = S.length := by omega
      obtain ⟨h2, h3⟩ := hS.out (i := 0) rfl
      rw [hie, hD, List.take_length] at h2
      rw [hie, hD, List.take_length]
      exact ⟨A', c', rfl, h2, h3⟩
theorem Frame_calls (A : Option Addr) (c : Nat) (l : List UInt8) (w : World) {ok : Nat → Prop} (h1 : RdE w ok uB A l) (hb : l.length ≤ 4611686018427387904) :
    Calls Tryd.prog 40 ⟨[.slice A l.length c]⟩ w fun e w' => ∃ A' c', e = .returned (.tuple #[.slice A' (frameV l).1.length c', .int .i64 (frameV l).2]) ∧ Owns w' w.heap.size A' c' 5 1 (frameV l).1.length ((frameV l).1.map uB) ∧ Below w.heap.size w w' := by
  refine gc_enter (N := 24) Tryd.func40 rfl rfl rfl [(0, _)] rfl ?_
  have hS := St.start w
  refine gc_seq fun K1 hK1 => ?_
  refine gc_region ?_
  refine gl_op rfl rfl rfl (op_pure hT rfl) ?_
  refine gl_op rfl rfl rfl (op_pure hT rfl) ?_
  refine gl_nil ?_
  refine hK1 _ _ ?_
  clear hK1; try clear K1
  refine gc_seq fun K2 hK2 => ?_
  refine gc_seq fun K3 hK3 => ?_
  refine gc_region ?_
  refine gl_op rfl rfl rfl (op_pure hT rfl) ?_
  refine gl_op rfl rfl rfl (op_pure hT rfl) ?_
  refine gl_op rfl rfl rfl (op_pure hT rfl) ?_
  refine gl_nil ?_
  refine hK3 _ _ ?_
  clear hK3; try clear K3
  refine gc_cond rfl rfl (fun c7 => ?_) (fun c7 => ?_)
  · try simp only [decide_eq_true_eq, decide_eq_false_iff_not, Bool.not_eq_true', Bool.not_eq_false', Int.not_lt, Int.not_le, Nat.not_lt, Nat.not_le, Bool.true_eq, Bool.false_eq, reduceCtorEq] at c7
    refine gc_seq fun K4 hK4 => ?_
    refine gc_region ?_
    refine gl_op rfl rfl rfl (op_pure hT rfl) ?_
    refine gl_op rfl rfl rfl (op_pure hT rfl) ?_
    refine gl_nil ?_
    refine hK4 _ _ ?_
    clear hK4; try clear K4
    refine gc_ret ?_
    try simp only [x_then_ret, x_block_ret]
    refine gk_ret2 rfl rfl rfl ?_
    have e1 : frameV l = ([], 2) := by unfold frameV; rw [if_pos (by omega)]
    rw [e1]
    exact ⟨none, 0, rfl, ⟨rfl, .inl ⟨rfl, rfl, rfl⟩⟩, hS.below⟩
  · try simp only [decide_eq_true_eq, decide_eq_false_iff_not, Bool.not_eq_true', Bool.not_eq_false', Int.not_lt, Int.not_le, Nat.not_lt, Nat.not_le, Bool.true_eq, Bool.false_eq, reduceCtorEq] at c7
    refine gc_skip ?_
    refine hK2 _ _ ?_
    clear hK2; try clear K2
    refine gc_seq fun K5 hK5 => ?_
    refine gc_region ?_
    refine gl_op rfl rfl rfl (op_pure hT rfl) ?_
    refine gl_op rfl rfl rfl (op_pure hT rfl) ?_
    refine gl_op rfl rfl rfl (op_pure hT rfl) ?_
    refine gl_spell 10 (v := .int .u32 (l.length : Nat)) rfl (by rw [IntKind.wrap_u32, Int.emod_eq_of_lt (by omega) (by omega)]) ?_
    refine gl_callf rfl rfl rfl rfl Tryd.func60 rfl rfl rfl (four_calls _ (by omega) _) ?_
    rintro _ w11 ⟨A11, c11, rfl, hr11, hb11⟩
    refine ⟨_, rfl, ?_⟩
    have hS := hS.addRow hb11 hr11
    refine gl_op rfl rfl rfl (op_pure hT rfl) ?_
    refine gl_nil ?_
    refine hK5 _ _ ?_
    clear hK5; try clear K5
    refine gc_seq fun K6 hK6 => ?_
    refine gc_region ?_
    refine gl_op rfl rfl rfl (op_pure hT rfl) ?_
    refine gl_op rfl rfl rfl (op_pure hT rfl) ?_
    refine gl_lit hT hS el22 rfl rfl rfl rfl rfl rfl rfl rfl rfl fun g14 w14 hS => ?_
    refine gl_callf rfl rfl rfl rfl Tryd.func23 rfl rfl rfl (Sum1_calls _ _ _ _ (le4 l.length) _ (hS.rdE (l := [(A11, (le4 l.length).length, c11)]) (i := 1) rfl) (hS.rdE (i := 0) rfl) (by simp [le4_len])) ?_
    rintro _ w15 ⟨rfl, hb15⟩
    refine ⟨_, rfl, ?_⟩
    have hS := hS.grown hb15
    refine gl_callf rfl rfl rfl rfl Tryd.func60 rfl rfl rfl (four_calls _ (crcV_lt _) _) ?_
    rintro _ w16 ⟨A16, c16, rfl, hr16, hb16⟩
    refine ⟨_, rfl, ?_⟩
    have hS := hS.addRow hb16 hr16
    refine gl_op rfl rfl rfl (op_pure hT rfl) ?_
    refine gl_op rfl rfl rfl (op_pure hT rfl) ?_
    refine gl_lit hT hS el22 rfl rfl rfl rfl rfl rfl rfl rfl rfl fun g19 w19 hS => ?_
    refine gl_callf rfl rfl rfl rfl Tryd.func23 rfl rfl rfl (Sum1_calls _ _ _ _ l _ (hS.rdE (l := [(A, l.length, c)]) (i := 3) rfl) (h1.old hS) hb) ?_
    rintro _ w20 ⟨rfl, hb20⟩
    refine ⟨_, rfl, ?_⟩
    have hS := hS.grown hb20
    refine gl_callf rfl rfl rfl rfl Tryd.func60 rfl rfl rfl (four_calls _ (crcV_lt _) _) ?_
    rintro _ w21 ⟨A21, c21, rfl, hr21, hb21⟩
    refine ⟨_, rfl, ?_⟩
    have hS := hS.addRow hb21 hr21
    refine gl_lit hT hS el22 rfl rfl rfl rfl rfl rfl rfl rfl rfl fun g22 w22 hS => ?_
    refine gl_callf rfl rfl rfl rfl Tryd.func61 rfl rfl rfl (Concat_calls _ _ [(A11, (le4 l.length).length, c11), (A16, (le4 (crcV (le4 l.length))).length, c16), (A, l.length, c), (A21, (le4 (crcV l)).length, c21)] [le4 l.length, le4 (crcV (le4 l.length)), l, le4 (crcV l)] _ (hS.rdE (l := [(A11, (le4 l.length).length, c11), (A16, (le4 (crcV (le4 l.length))).length, c16), (A, l.length, c), (A21, (le4 (crcV l)).length, c21)]) (i := 5) rfl) (Parts.cons (hS.rdE (i := 0) rfl) (by simp [le4_len]) (Parts.cons (by have := hS.rdE (i := 2) rfl; simpa using this) (by simp [le4_len]) (Parts.cons (h1.old hS) hb (Parts.cons (hS.rdE (i := 4) rfl) (by simp [le4_len]) Parts.nil)))) (by simp) (by simp [le4_len]; omega)) ?_
    rintro _ w23 ⟨A23, c23, rfl, hr23, hb23⟩
    refine ⟨_, rfl, ?_⟩
    have hS := hS.addRow hb23 hr23
    refine gl_op rfl rfl rfl (op_pure hT rfl) ?_
    refine gl_op rfl rfl rfl (op_pure hT rfl) ?_
    refine gl_nil ?_
    refine hK6 _ _ ?_
    clear hK6; try clear K6
    refine gc_ret ?_
    try simp only [x_then_ret, x_block_ret]
    refine gk_ret2 rfl rfl rfl ?_
    have e1 : frameV l = (frameB l, 0) := by unfold frameV; rw [if_neg (by omega)]
    have e2 : [le4 l.length, le4 (crcV (le4 l.length)), l, le4 (crcV l)].flatten = frameB l := by simp [frameB]
    rw [e1]
    obtain ⟨h2, h3⟩ := hS.out (i := 6) rfl
    rw [e2] at h2
    exact ⟨A23, c23, by rw [e2], h2, h3⟩
end Go.Proofs.YtpeomdobcobdiaaDoor
