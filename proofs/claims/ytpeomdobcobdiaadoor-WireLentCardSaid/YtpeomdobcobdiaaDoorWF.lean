/- Contracts of floats, and the walk of WireFloats. No condition. -/
import Derived.Test.YtpeomdobcobdiaaDoorWN
import Derived.Test.YtpeomdobcobdiaaDoorW10
import Derived.Test.YtpeomdobcobdiaaDoorFlt
import Derived.Test.YtpeomdobcobdiaaDoorLibH
namespace Go.Proofs.YtpeomdobcobdiaaDoor
open Go.RowKit
set_option linter.unusedVariables false
set_option linter.unusedSimpArgs false
theorem fine_calls (u : Nat) (hu : u < 18446744073709551616) (w : World) :
    Calls Tryd.prog 56 ⟨[.int .u64 u]⟩ w fun e w' => e = .returned (.bool (numB u)) ∧ Eqv w w' := by
  refine gc_enter (N := 7) Tryd.func56 rfl rfl rfl [(0, _)] rfl ?_
  refine gc_seq fun K1 hK1 => ?_
  refine gc_region ?_
  refine gl_op rfl rfl rfl (op_pure hT rfl) ?_
  refine gl_nil ?_
  refine hK1 _ _ ?_
  clear hK1; try clear K1
  refine gc_seq fun K2 hK2 => ?_
  refine gc_region ?_
  refine gl_op rfl rfl rfl (op_pure hT rfl) ?_
  refine gl_op rfl rfl rfl (op_pure hT rfl) ?_
  have e1 : (u : Int) / 2 ^ 52 = ((u / 4503599627370496 : Nat) : Int) := by omega
  refine gl_op rfl rfl rfl (op_pure hT rfl) ?_
  refine gl_spell 5 (v := .int .u64 ((u / 4503599627370496 % 2048 : Nat) : Int)) rfl ?_ ?_
  · show Value.int .u64 (bits .and .u64 ((u : Int) / 2 ^ 52) 2047) = _
    rw [e1, u64_and2047 _ (by omega)]
  refine gl_op rfl rfl rfl (op_pure hT rfl) ?_
  refine gl_op rfl rfl rfl (op_pure hT rfl) ?_
  refine gl_nil ?_
  refine hK2 _ _ ?_
  clear hK2; try clear K2
  refine gc_ret ?_
  try simp only [x_then_ret, x_block_ret]
  refine gk_ret1 rfl rfl ?_
  exact ⟨by unfold numB; congr 3; rw [Bool.eq_iff_iff]; simp; omega, Eqv.refl _⟩
theorem number_calls (u : Nat) (hu : u < 18446744073709551616) (w : World) :
    Calls Tryd.prog 58 ⟨[.int .u64 u]⟩ w fun e w' => e = .returned (.bool (numB u)) ∧ Eqv w w' := by
  refine gc_enter (N := 7) Tryd.func58 rfl rfl rfl [(0, _)] rfl ?_
  refine gc_seq fun K1 hK1 => ?_
  refine gc_region ?_
  refine gl_op rfl rfl rfl (op_pure hT rfl) ?_
  refine gl_nil ?_
  refine hK1 _ _ ?_
  clear hK1; try clear K1
  refine gc_seq fun K2 hK2 => ?_
  refine gc_region ?_
  refine gl_op rfl rfl rfl (op_pure hT rfl) ?_
  refine gl_op rfl rfl rfl (op_pure hT rfl) ?_
  have e1 : (u : Int) / 2 ^ 52 = ((u / 4503599627370496 : Nat) : Int) := by omega
  refine gl_op rfl rfl rfl (op_pure hT rfl) ?_
  refine gl_spell 5 (v := .int .u64 ((u / 4503599627370496 % 2048 : Nat) : Int)) rfl ?_ ?_
  · show Value.int .u64 (bits .and .u64 ((u : Int) / 2 ^ 52) 2047) = _
    rw [e1, u64_and2047 _ (by omega)]
  refine gl_op rfl rfl rfl (op_pure hT rfl) ?_
  refine gl_op rfl rfl rfl (op_pure hT rfl) ?_
  refine gl_nil ?_
  refine hK2 _ _ ?_
  clear hK2; try clear K2
  refine gc_ret ?_
  try simp only [x_then_ret, x_block_ret]
  refine gk_ret1 rfl rfl ?_
  exact ⟨by unfold numB; congr 3; rw [Bool.eq_iff_iff]; simp; omega, Eqv.refl _⟩
theorem Bits_calls (b : Nat) (w : World) : Calls Tryd.prog 38 ⟨[.float .f64 b]⟩ w fun e w' => e = .returned (.int .u64 b) ∧ Eqv w w' := by
  refine gc_enter (N := 5) Tryd.func38 rfl rfl rfl [(0, _)] rfl ?_
  refine gc_seq fun K1 hK1 => ?_
  refine gc_region ?_
  refine gl_op rfl rfl rfl (op_pure hT rfl) ?_
  refine gl_nil ?_
  refine hK1 _ _ ?_
  clear hK1; try clear K1
  refine gc_seq fun K2 hK2 => ?_
  refine gc_region ?_
  refine gl_op rfl rfl rfl (op_pure hT rfl) ?_
  refine gl_op rfl rfl rfl (op_extern (ext := Extern.MathFloatBits.float64bits) rfl Tryd.func59 (by kernel_rfl) (by kernel_rfl) (by kernel_rfl) (by kernel_rfl) rfl (fun _ => rfl)) ?_
  refine gl_op rfl rfl rfl (op_pure hT rfl) ?_
  refine gl_nil ?_
  refine hK2 _ _ ?_
  clear hK2; try clear K2
  refine gc_ret ?_
  try simp only [x_then_ret, x_block_ret]
  refine gk_ret1 rfl rfl ?_
  exact ⟨rfl, Eqv.refl _⟩
theorem ApiFloat_calls (b : Nat) (w : World) : Calls Tryd.prog 34 ⟨[.int .u64 b]⟩ w fun e w' => e = .returned (.float .f64 b) ∧ Eqv w w' := by
  refine gc_enter (N := 5) Tryd.func34 rfl rfl rfl [(0, _)] rfl ?_
  refine gc_seq fun K1 hK1 => ?_
  refine gc_region ?_
  refine gl_op rfl rfl rfl (op_pure hT rfl) ?_
  refine gl_nil ?_
  refine hK1 _ _ ?_
  clear hK1; try clear K1
  refine gc_seq fun K2 hK2 => ?_
  refine gc_region ?_
  refine gl_op rfl rfl rfl (op_pure hT rfl) ?_
  refine gl_op rfl rfl rfl (op_extern (ext := Extern.MathFloatBits.float64frombits) rfl Tryd.func57 (by kernel_rfl) (by kernel_rfl) (by kernel_rfl) (by kernel_rfl) rfl (fun _ => rfl)) ?_
  refine gl_op rfl rfl rfl (op_pure hT rfl) ?_
  refine gl_nil ?_
  refine hK2 _ _ ?_
  clear hK2; try clear K2
  refine gc_ret ?_
  try simp only [x_then_ret, x_block_ret]
  refine gk_ret1 rfl rfl ?_
  exact ⟨rfl, Eqv.refl _⟩
def fillB (u i : Nat) : List Value := (leB u i).map uB ++ List.replicate (8 - i) (.int .u8 0)
theorem fill_set (u i : Nat) (h : i < 8) : (fillB u i).set i (uB (UInt8.ofNat (u / 256 ^ i))) = fillB u (i + 1) := by
  unfold fillB
  rw [leB_snoc, show 8 - i = (8 - (i + 1)) + 1 by omega, List.replicate_succ]
  have hl : ((leB u i).map uB).length = i := by rw [List.length_map, leB_len]
  rw [List.set_append_right _ _ (by omega)]
  simp [hl]
theorem made_one (v : Value) (n : Nat) : (madeCells #[v] n).toList = List.replicate n v := by
  apply List.ext_getElem
  · simp [madeCells]
  · intro j h1 h2; simp [madeCells, Nat.mod_one]
theorem Float_calls (u : Nat) (hu : u < 18446744073709551616) (w : World) :
    Calls Tryd.prog 33 ⟨[.float .f64 u]⟩ w fun e w' => ∃ A c, e = .returned (.tuple #[.slice A (floatV u).1.length c, .int .i64 (floatV u).2]) ∧
      Owns w' w.heap.size A c 5 1 (floatV u).1.length ((floatV u).1.map uB) ∧ Below w.heap.size w w' := by
  refine gc_enter (N := 28) Tryd.func33 rfl rfl rfl [(0, _)] rfl ?_
  have hS := St.start w
  refine gc_seq fun K1 hK1 => ?_
  refine gc_region ?_
  refine gl_op rfl rfl rfl (op_pure hT rfl) ?_
  refine gl_op rfl rfl rfl (op_pure hT rfl) ?_
  refine gl_nil ?_
  refine hK1 _ _ ?_
  clear hK1; try clear K1
  refine gc_seq fun K2 hK2 => ?_
  refine gc_region ?_
  refine gl_op rfl rfl rfl (op_pure hT rfl) ?_
  refine gl_callf rfl rfl rfl rfl Tryd.func38 rfl rfl rfl (Bits_calls u _) ?_
  rintro _ _ ⟨rfl, n8, rfl⟩
  refine ⟨_, rfl, ?_⟩
  have hS := hS.dr n8
  refine gl_op rfl rfl rfl (op_pure hT rfl) ?_
  refine gl_nil ?_
  refine hK2 _ _ ?_
  clear hK2; try clear K2
  refine gc_seq fun K3 hK3 => ?_
  refine gc_seq fun K4 hK4 => ?_
  refine gc_region ?_
  refine gl_op rfl rfl rfl (op_pure hT rfl) ?_
  refine gl_callf rfl rfl rfl rfl Tryd.func56 rfl rfl rfl (fine_calls u hu _) ?_
  rintro _ _ ⟨rfl, n10, rfl⟩
  refine ⟨_, rfl, ?_⟩
  have hS := hS.dr n10
  refine gl_op rfl rfl rfl (op_pure hT rfl) ?_
  refine gl_nil ?_
  refine hK4 _ _ ?_
  clear hK4; try clear K4
  refine gc_cond rfl rfl (fun c11 => ?_) (fun c11 => ?_)
  · try simp only [decide_eq_true_eq, decide_eq_false_iff_not, Bool.not_eq_true', Bool.not_eq_false', Int.not_lt, Int.not_le, Nat.not_lt, Nat.not_le, Bool.true_eq, Bool.false_eq, reduceCtorEq] at c11
    refine gc_seq fun K5 hK5 => ?_
    refine gc_region ?_
    refine gl_op rfl rfl rfl (op_pure hT rfl) ?_
    refine gl_op rfl rfl rfl (op_pure hT rfl) ?_
    refine gl_nil ?_
    refine hK5 _ _ ?_
    clear hK5; try clear K5
    refine gc_ret ?_
    try simp only [x_then_ret, x_block_ret]
    refine gk_ret2 rfl rfl rfl ?_
    have e1 : floatV u = ([], 15) := by unfold floatV; rw [if_pos c11]
    rw [e1]
    exact ⟨none, 0, rfl, owns_nil, hS.below⟩
  · try simp only [decide_eq_true_eq, decide_eq_false_iff_not, Bool.not_eq_true', Bool.not_eq_false', Int.not_lt, Int.not_le, Nat.not_lt, Nat.not_le, Bool.true_eq, Bool.false_eq, reduceCtorEq] at c11
    refine gc_skip ?_
    refine hK3 _ _ ?_
    clear hK3; try clear K3
    refine gc_seq fun K6 hK6 => ?_
    refine gc_region ?_
    refine gl_make (n := 8) hT hS el5 rfl rfl rfl rfl rfl rfl rfl (by omega) (by omega) fun g12 w12 hS => ?_
    refine gl_op rfl rfl rfl (op_pure hT rfl) ?_
    refine gl_nil ?_
    refine hK6 _ _ ?_
    clear hK6; try clear K6
    refine gc_seq fun K7 hK7 => ?_
    refine gc_seq fun K8 hK8 => ?_
    refine gc_region ?_
    refine gl_op rfl rfl rfl (op_pure hT rfl) ?_
    refine gl_op rfl rfl rfl (op_pure hT rfl) ?_
    refine gl_op rfl rfl rfl (op_pure hT rfl) ?_
    refine gl_nil ?_
    refine hK8 _ _ ?_
    clear hK8; try clear K8
    refine gc_block ?_
    have e0 : (madeCells (Value.int .u8 0).cells (8 * 1)).toList = fillB u 0 := by
      rw [show (Value.int .u8 0).cells = #[Value.int .u8 0] from rfl, made_one]; simp [fillB, leB]
    rw [e0] at hS
    refine gc_loop (fun k a w' => ∃ (i : Nat) (A : Option Addr), Fr 28 a [(4, .int .u64 u), (5, .slice A 8 8), (14, .int .i64 8), (15, .int .i64 i)] ∧ i ≤ 8 ∧ k = 9 - i ∧ St w.heap.size w w' [.row A 8 5 1 8 (fillB u i)]) 9 ?_ ?_ ?_
    · intro a ha; exact ⟨0, _, ha.sub ⟨rfl, rfl, rfl, rfl, trivial⟩, by omega, by omega, hS⟩
    · rintro a w ⟨i, _, _, h1, h2, _⟩; omega
    rintro k a w1 ⟨i, A, hF, hi, hk, hS⟩
    refine gc_of hF ?_
    refine gc_seq fun K9 hK9 => ?_
    refine gc_region ?_
    refine gl_op rfl rfl rfl (op_pure hT rfl) ?_
    refine gl_nil ?_
    refine hK9 _ _ ?_
    clear hK9; try clear K9
    refine gc_seq fun K10 hK10 => ?_
    refine gc_cond rfl rfl (fun c16 => ?_) (fun c16 => ?_)
    · try simp only [decide_eq_true_eq, decide_eq_false_iff_not, Bool.not_eq_true', Bool.not_eq_false', Int.not_lt, Int.not_le, Nat.not_lt, Nat.not_le, Bool.true_eq, Bool.false_eq, reduceCtorEq] at c16
      refine gc_skip ?_
      refine hK10 _ _ ?_
      clear hK10; try clear K10
      refine gc_seq fun K11 hK11 => ?_
      refine gc_block ?_
      refine gc_seq fun K12 hK12 => ?_
      refine gc_region ?_
      refine gl_op rfl rfl rfl (op_pure hT rfl) ?_
      refine gl_op rfl rfl rfl (op_pure hT rfl) ?_
      refine gl_nil ?_
      refine hK12 _ _ ?_
      clear hK12; try clear K12
      refine gc_region ?_
      refine gl_op rfl rfl rfl (op_pure hT rfl) ?_
      refine gl_op rfl rfl rfl (op_pure hT rfl) ?_
      refine gl_op rfl rfl rfl (op_pure hT rfl) ?_
      refine gl_op rfl rfl rfl (op_pure hT rfl) ?_
      first | refine gl_fit hT rfl rfl rfl rfl (by omega) ?_ | refine gl_op rfl rfl rfl (op_pure hT rfl) ?_
      refine gl_op rfl rfl rfl (op_shr rfl rfl rfl (by omega) (by first | omega | (simp [IntKind.bits]; omega))) ?_
      refine gl_op rfl rfl rfl (op_pure hT rfl) ?_
      refine gl_ixR 0 hT hS rfl rfl rfl rfl rfl el5.cellsOf.1 el5.cellsOf.2 rfl rfl rfl (by omega) (by first | omega | (simp; omega)) (by first | exact Nat.le_refl _ | omega | (simp; omega)) fun g25 hg25 => ?_
      cases hg25
      refine gl_storeR 0 hS el5.cellsOf.1 el5.cellsOf.2 rfl rfl rfl rfl rfl rfl (by first | omega | (simp; omega)) rfl fun ws25 hS => ?_
      refine gl_nil ?_
      refine hK11 _ _ ?_
      clear hK11; try clear K11
      refine gc_region ?_
      first | refine gl_fit hT rfl rfl rfl rfl (by omega) ?_ | refine gl_op rfl rfl rfl (op_pure hT rfl) ?_
      refine gl_op rfl rfl rfl (op_pure hT rfl) ?_
      refine gl_nil ?_
      intro a ha
      have hx : ((i : Int)).toNat = i := by omega
      rw [shr_byte, hx] at hS
      have hS : St w.heap.size w ws25 [.row (some ⟨g25, 0, none⟩) 8 5 1 8 ((fillB u i).set i (uB (UInt8.ofNat (u / 256 ^ i))))] := hS
      rw [fill_set u i (by omega)] at hS
      exact ⟨i + 1, _, ha.sub ⟨rfl, rfl, rfl, rfl, trivial⟩, by omega, by omega, hS⟩
    · try simp only [decide_eq_true_eq, decide_eq_false_iff_not, Bool.not_eq_true', Bool.not_eq_false', Int.not_lt, Int.not_le, Nat.not_lt, Nat.not_le, Bool.true_eq, Bool.false_eq, reduceCtorEq] at c16
      refine gc_exit ?_
      refine hK7 _ _ ?_
      clear hK7; try clear K7
      refine gc_seq fun K13 hK13 => ?_
      refine gc_region ?_
      refine gl_op rfl rfl rfl (op_pure hT rfl) ?_
      refine gl_op rfl rfl rfl (op_pure hT rfl) ?_
      refine gl_op rfl rfl rfl (op_pure hT rfl) ?_
      refine gl_nil ?_
      refine hK13 _ _ ?_
      clear hK13; try clear K13
      refine gc_ret ?_
      try simp only [x_then_ret, x_block_ret]
      refine gk_ret2 rfl rfl rfl ?_
      have e1 : floatV u = (leB u 8, 0) := by unfold floatV; rw [if_neg (by simp [c11])]
      rw [e1]
      have hi8 : i = 8 := by omega
      subst hi8
      obtain ⟨h2, h3⟩ := hS.out (i := 0) rfl
      have e2 : fillB u 8 = (leB u 8).map uB := by simp [fillB]
      rw [e2] at h2
      exact ⟨A, 8, rfl, h2, h3⟩
theorem rFloat_calls (u : Nat) (hu : u < 18446744073709551616) (w : World) :
    Calls Tryd.prog 35 ⟨[.int .u64 u]⟩ w fun e w' => ∃ A c, e = .returned (.tuple #[.slice A (floatV u).1.length c, .int .i64 (floatV u).2]) ∧
      Owns w' w.heap.size A c 5 1 (floatV u).1.length ((floatV u).1.map uB) ∧ Below w.heap.size w w' := by
  refine gc_enter (N := 22) Tryd.func35 rfl rfl rfl [(0, _)] rfl ?_
  have hS := St.start w
  refine gc_seq fun K1 hK1 => ?_
  refine gc_region ?_
  refine gl_op rfl rfl rfl (op_pure hT rfl) ?_
  refine gl_op rfl rfl rfl (op_pure hT rfl) ?_
  refine gl_nil ?_
  refine hK1 _ _ ?_
  clear hK1; try clear K1
  refine gc_seq fun K2 hK2 => ?_
  refine gc_seq fun K3 hK3 => ?_
  refine gc_region ?_
  refine gl_op rfl rfl rfl (op_pure hT rfl) ?_
  refine gl_callf rfl rfl rfl rfl Tryd.func58 rfl rfl rfl (number_calls u hu _) ?_
  rintro _ _ ⟨rfl, n7, rfl⟩
  refine ⟨_, rfl, ?_⟩
  have hS := hS.dr n7
  refine gl_op rfl rfl rfl (op_pure hT rfl) ?_
  refine gl_nil ?_
  refine hK3 _ _ ?_
  clear hK3; try clear K3
  refine gc_cond rfl rfl (fun c8 => ?_) (fun c8 => ?_)
  · try simp only [decide_eq_true_eq, decide_eq_false_iff_not, Bool.not_eq_true', Bool.not_eq_false', Int.not_lt, Int.not_le, Nat.not_lt, Nat.not_le, Bool.true_eq, Bool.false_eq, reduceCtorEq] at c8
    refine gc_seq fun K4 hK4 => ?_
    refine gc_region ?_
    refine gl_op rfl rfl rfl (op_pure hT rfl) ?_
    refine gl_op rfl rfl rfl (op_pure hT rfl) ?_
    refine gl_nil ?_
    refine hK4 _ _ ?_
    clear hK4; try clear K4
    refine gc_ret ?_
    try simp only [x_then_ret, x_block_ret]
    refine gk_ret2 rfl rfl rfl ?_
    have e1 : floatV u = ([], 15) := by unfold floatV; rw [if_pos c8]
    rw [e1]
    exact ⟨none, 0, rfl, owns_nil, hS.below⟩
  · try simp only [decide_eq_true_eq, decide_eq_false_iff_not, Bool.not_eq_true', Bool.not_eq_false', Int.not_lt, Int.not_le, Nat.not_lt, Nat.not_le, Bool.true_eq, Bool.false_eq, reduceCtorEq] at c8
    refine gc_skip ?_
    refine hK2 _ _ ?_
    clear hK2; try clear K2
    refine gc_seq fun K5 hK5 => ?_
    refine gc_region ?_
    refine gl_op rfl rfl rfl (op_pure hT rfl) ?_
    refine gl_nil ?_
    refine hK5 _ _ ?_
    clear hK5; try clear K5
    refine gc_seq fun K6 hK6 => ?_
    refine gc_seq fun K7 hK7 => ?_
    refine gc_region ?_
    refine gl_op rfl rfl rfl (op_pure hT rfl) ?_
    refine gl_nil ?_
    refine hK7 _ _ ?_
    clear hK7; try clear K7
    refine gc_block ?_
    have hS := hS.nil 5 1
    refine gc_loop (fun k a w' => ∃ (i : Nat) (A : Option Addr) (c : Nat), Fr 22 a [(0, .int .u64 (u / 256 ^ i : Nat)), (4, .slice A i c), (5, .int .i64 i)] ∧ i ≤ 8 ∧ k = 9 - i ∧ St w.heap.size w w' [.row A c 5 1 i ((leB u i).map uB)]) 9 ?_ ?_ ?_
    · intro a ha; exact ⟨0, _, _, ha.sub ⟨by show some (Value.int .u64 (u : Nat)) = _; simp, rfl, rfl, trivial⟩, by omega, by omega, hS⟩
    · rintro a w ⟨i, _, _, _, h1, h2, _⟩; omega
    rintro k a w1 ⟨i, A, c, hF, hi, hk, hS⟩
    refine gc_of hF ?_
    have hdl : u / 256 ^ i ≤ u := Nat.div_le_self _ _
    generalize hy : u / 256 ^ i = y at hF hdl
    refine gc_seq fun K8 hK8 => ?_
    refine gc_seq fun K9 hK9 => ?_
    refine gc_region ?_
    refine gl_op rfl rfl rfl (op_pure hT rfl) ?_
    refine gl_op rfl rfl rfl (op_pure hT rfl) ?_
    refine gl_nil ?_
    refine hK9 _ _ ?_
    clear hK9; try clear K9
    refine gc_cond rfl rfl (fun c10 => ?_) (fun c10 => ?_)
    · try simp only [decide_eq_true_eq, decide_eq_false_iff_not, Bool.not_eq_true', Bool.not_eq_false', Int.not_lt, Int.not_le, Nat.not_lt, Nat.not_le, Bool.true_eq, Bool.false_eq, reduceCtorEq] at c10
      refine gc_skip ?_
      refine hK8 _ _ ?_
      clear hK8; try clear K8
      refine gc_seq fun K10 hK10 => ?_
      refine gc_block ?_
      refine gc_seq fun K11 hK11 => ?_
      refine gc_region ?_
      refine gl_op rfl rfl rfl (op_pure hT rfl) ?_
      refine gl_op rfl rfl rfl (op_pure hT rfl) ?_
      refine gl_op rfl rfl rfl (op_rem hT rfl (by omega)) ?_
      refine gl_op rfl rfl rfl (op_pure hT rfl) ?_
      refine gl_lit hT hS el5 rfl rfl rfl rfl rfl rfl rfl rfl rfl fun g17 w17 hS => ?_
      refine gl_append 0 hT hS el5 (hS.rd (i := 1) rfl) (rfl) rfl rfl rfl rfl rfl rfl rfl rfl (by first | omega | (simp; omega)) (by first | omega | (simp; omega)) fun A18 c18 w18 hS => ?_
      have hS := hS.erase 1
      refine gl_op rfl rfl rfl (op_pure hT rfl) ?_
      refine gl_nil ?_
      refine hK11 _ _ ?_
      clear hK11; try clear K11
      refine gc_region ?_
      refine gl_op rfl rfl rfl (op_pure hT rfl) ?_
      refine gl_op rfl rfl rfl (op_pure hT rfl) ?_
      refine gl_spell 20 (v := .int .u64 (y / 256 : Nat)) rfl (by rw [Int.tdiv_eq_ediv_of_nonneg (by omega), IntKind.wrap_u64, Int.emod_eq_of_lt (by omega) (by omega)]; rfl) ?_
      refine gl_op rfl rfl rfl (op_pure hT rfl) ?_
      refine gl_nil ?_
      refine hK10 _ _ ?_
      clear hK10; try clear K10
      refine gc_region ?_
      refine gl_op rfl rfl rfl (op_pure hT rfl) ?_
      first | refine gl_fit hT rfl rfl rfl rfl (by omega) ?_ | refine gl_op rfl rfl rfl (op_pure hT rfl) ?_
      refine gl_op rfl rfl rfl (op_pure hT rfl) ?_
      refine gl_nil ?_
      intro a ha
      have e1 : Value.int .u8 (IntKind.u8.wrap ((y : Int) % 256)) = uB (UInt8.ofNat (u / 256 ^ i)) := by
        rw [hy, u8_mod]
        have : ((y : Int) % 256 % 256).toNat = y % 256 := by omega
        rw [this]
        congr 1
        apply UInt8.toNat_inj.1
        rw [UInt8.toNat_ofNat', UInt8.toNat_ofNat']; omega
      rw [e1] at hS
      have hS : St w.heap.size w w18 [.row A18 c18 5 1 (i + 1) ((leB u i).map uB ++ [uB (UInt8.ofNat (u / 256 ^ i))])] := hS
      have e2 : (leB u i).map uB ++ [uB (UInt8.ofNat (u / 256 ^ i))] = (leB u (i + 1)).map uB := by rw [leB_snoc]; simp
      rw [e2] at hS
      refine ⟨i + 1, _, _, ha.sub ⟨?_, rfl, rfl, trivial⟩, by omega, by omega, hS⟩
      rw [Nat.pow_succ, ← Nat.div_div_eq_div_mul, hy]; rfl
    · try simp only [decide_eq_true_eq, decide_eq_false_iff_not, Bool.not_eq_true', Bool.not_eq_false', Int.not_lt, Int.not_le, Nat.not_lt, Nat.not_le, Bool.true_eq, Bool.false_eq, reduceCtorEq] at c10
      refine gc_exit ?_
      refine hK6 _ _ ?_
      clear hK6; try clear K6
      refine gc_seq fun K12 hK12 => ?_
      refine gc_region ?_
      refine gl_op rfl rfl rfl (op_pure hT rfl) ?_
      refine gl_op rfl rfl rfl (op_pure hT rfl) ?_
      refine gl_op rfl rfl rfl (op_pure hT rfl) ?_
      refine gl_nil ?_
      refine hK12 _ _ ?_
      clear hK12; try clear K12
      refine gc_ret ?_
      try simp only [x_then_ret, x_block_ret]
      refine gk_ret2 rfl rfl rfl ?_
      have e1 : floatV u = (leB u 8, 0) := by unfold floatV; rw [if_neg (by simp [c8])]
      rw [e1]
      have hi8 : i = 8 := by omega
      subst hi8
      obtain ⟨h2, h3⟩ := hS.out (i := 0) rfl
      exact ⟨A, c, rfl, h2, h3⟩
theorem ReadFloat_calls (A : Option Addr) (c : Nat) (l : List UInt8) (at_ : Int) (w : World) {ok : Nat → Prop} (h1 : RdE w ok uB A l) (hb : l.length ≤ 4611686018427387904) (hmin : -9223372036854775808 ≤ at_) :
    Calls Tryd.prog 36 ⟨[.slice A l.length c, .int .i64 at_]⟩ w fun e w' => e = .returned (.tuple #[.float .f64 (readFloatV l at_).1, .int .i64 (readFloatV l at_).2.1, .int .i64 (readFloatV l at_).2.2]) ∧ Eqv w w' := by
  refine gc_enter (N := 45) Tryd.func36 rfl rfl rfl [(0, _), (1, _)] rfl ?_
  refine gc_seq fun K1 hK1 => ?_
  refine gc_region ?_
  refine gl_op rfl rfl rfl (op_pure hT rfl) ?_
  refine gl_op rfl rfl rfl (op_pure hT rfl) ?_
  refine gl_op rfl rfl rfl (op_pure hT rfl) ?_
  refine gl_nil ?_
  refine hK1 _ _ ?_
  clear hK1; try clear K1
  refine gc_seq fun K2 hK2 => ?_
  refine gc_seq fun K3 hK3 => ?_
  refine gc_region ?_
  refine gl_op rfl rfl rfl (op_pure hT rfl) ?_
  refine gl_op rfl rfl rfl (op_pure hT rfl) ?_
  refine gl_op rfl rfl rfl (op_pure hT rfl) ?_
  refine gl_split (t := 11) rfl (fun c11 => ?_) (fun c11 => ?_)
  · try simp only [decide_eq_true_eq, decide_eq_false_iff_not, Bool.not_eq_true', Bool.not_eq_false', Int.not_lt, Int.not_le, Nat.not_lt, Nat.not_le, Bool.true_eq, Bool.false_eq, reduceCtorEq] at c11
    refine gl_pass rfl rfl rfl rfl rfl rfl ?_
    refine gl_pass rfl rfl rfl rfl rfl rfl ?_
    refine gl_pass rfl rfl rfl rfl rfl rfl ?_
    refine gl_pass rfl rfl rfl rfl rfl rfl ?_
    refine gl_op rfl rfl rfl (op_pure hT rfl) ?_
    refine gl_nil ?_
    refine hK3 _ _ ?_
    clear hK3; try clear K3
    refine gc_cond_t rfl ?_
    refine gc_seq fun K4 hK4 => ?_
    refine gc_region ?_
    refine gl_op rfl rfl rfl (op_pure hT rfl) ?_
    refine gl_op rfl rfl rfl (op_pure hT rfl) ?_
    refine gl_op rfl rfl rfl (op_pure hT rfl) ?_
    refine gl_nil ?_
    refine hK4 _ _ ?_
    clear hK4; try clear K4
    refine gc_ret ?_
    try simp only [x_then_ret, x_block_ret]
    refine gk_ret3 rfl rfl rfl rfl ?_
    exact ⟨by unfold readFloatV; rw [if_pos (by omega)], Eqv.refl _⟩
  · try simp only [decide_eq_true_eq, decide_eq_false_iff_not, Bool.not_eq_true', Bool.not_eq_false', Int.not_lt, Int.not_le, Nat.not_lt, Nat.not_le, Bool.true_eq, Bool.false_eq, reduceCtorEq] at c11
    refine gl_un rfl rfl rfl rfl ?_
    refine gl_op rfl rfl rfl (op_pure hT rfl) ?_
    refine gl_un rfl rfl rfl rfl ?_
    refine gl_op rfl rfl rfl (op_pure hT rfl) ?_
    refine gl_un rfl rfl rfl rfl ?_
    refine gl_op rfl rfl rfl (op_pure hT rfl) ?_
    refine gl_un rfl rfl rfl rfl ?_
    refine gl_op rfl rfl rfl (op_pure hT rfl) ?_
    refine gl_op rfl rfl rfl (op_pure hT rfl) ?_
    refine gl_nil ?_
    refine hK3 _ _ ?_
    clear hK3; try clear K3
    refine gc_cond rfl rfl (fun c16 => ?_) (fun c16 => ?_)
    · try simp only [decide_eq_true_eq, decide_eq_false_iff_not, Bool.not_eq_true', Bool.not_eq_false', Int.not_lt, Int.not_le, Nat.not_lt, Nat.not_le, Bool.true_eq, Bool.false_eq, reduceCtorEq] at c16
      refine gc_seq fun K5 hK5 => ?_
      refine gc_region ?_
      refine gl_op rfl rfl rfl (op_pure hT rfl) ?_
      refine gl_op rfl rfl rfl (op_pure hT rfl) ?_
      refine gl_op rfl rfl rfl (op_pure hT rfl) ?_
      refine gl_nil ?_
      refine hK5 _ _ ?_
      clear hK5; try clear K5
      refine gc_ret ?_
      try simp only [x_then_ret, x_block_ret]
      refine gk_ret3 rfl rfl rfl rfl ?_
      exact ⟨by unfold readFloatV; rw [if_pos (by omega)], Eqv.refl _⟩
    · try simp only [decide_eq_true_eq, decide_eq_false_iff_not, Bool.not_eq_true', Bool.not_eq_false', Int.not_lt, Int.not_le, Nat.not_lt, Nat.not_le, Bool.true_eq, Bool.false_eq, reduceCtorEq] at c16
      refine gc_skip ?_
      refine hK2 _ _ ?_
      clear hK2; try clear K2
      refine gc_seq fun K6 hK6 => ?_
      refine gc_seq fun K7 hK7 => ?_
      refine gc_region ?_
      refine gl_op rfl rfl rfl (op_pure hT rfl) ?_
      refine gl_op rfl rfl rfl (op_pure hT rfl) ?_
      refine gl_op rfl rfl rfl (op_pure hT rfl) ?_
      first | refine gl_fit hT rfl rfl rfl rfl (by omega) ?_ | refine gl_op rfl rfl rfl (op_pure hT rfl) ?_
      refine gl_op rfl rfl rfl (op_pure hT rfl) ?_
      refine gl_nil ?_
      refine hK7 _ _ ?_
      clear hK7; try clear K7
      refine gc_cond rfl rfl (fun c21 => ?_) (fun c21 => ?_)
      · try simp only [decide_eq_true_eq, decide_eq_false_iff_not, Bool.not_eq_true', Bool.not_eq_false', Int.not_lt, Int.not_le, Nat.not_lt, Nat.not_le, Bool.true_eq, Bool.false_eq, reduceCtorEq] at c21
        refine gc_seq fun K8 hK8 => ?_
        refine gc_region ?_
        refine gl_op rfl rfl rfl (op_pure hT rfl) ?_
        refine gl_op rfl rfl rfl (op_pure hT rfl) ?_
        refine gl_op rfl rfl rfl (op_pure hT rfl) ?_
        refine gl_nil ?_
        refine hK8 _ _ ?_
        clear hK8; try clear K8
        refine gc_ret ?_
        try simp only [x_then_ret, x_block_ret]
        refine gk_ret3 rfl rfl rfl rfl ?_
        exact ⟨by unfold readFloatV; rw [if_neg (by omega), if_pos c21], Eqv.refl _⟩
      · try simp only [decide_eq_true_eq, decide_eq_false_iff_not, Bool.not_eq_true', Bool.not_eq_false', Int.not_lt, Int.not_le, Nat.not_lt, Nat.not_le, Bool.true_eq, Bool.false_eq, reduceCtorEq] at c21
        refine gc_skip ?_
        refine hK6 _ _ ?_
        clear hK6; try clear K6
        refine gc_seq fun K9 hK9 => ?_
        refine gc_region ?_
        refine gl_op rfl rfl rfl (op_pure hT rfl) ?_
        refine gl_nil ?_
        refine hK9 _ _ ?_
        clear hK9; try clear K9
        refine gc_seq fun K10 hK10 => ?_
        refine gc_seq fun K11 hK11 => ?_
        refine gc_region ?_
        refine gl_op rfl rfl rfl (op_pure hT rfl) ?_
        refine gl_nil ?_
        refine hK11 _ _ ?_
        clear hK11; try clear K11
        refine gc_block ?_
        refine gc_loop (fun k a w' => ∃ (i : Nat), Fr 45 a [(0, .slice A l.length c), (1, .int .i64 at_), (7, .int .u64 (vLE l at_.toNat i : Nat)), (22, .int .i64 i)] ∧ i ≤ 8 ∧ k = 9 - i ∧ w = w') 9 ?_ ?_ ?_
        · intro a ha; exact ⟨0, ha.sub ⟨rfl, rfl, rfl, rfl, trivial⟩, by omega, by omega, rfl⟩
        · rintro a w ⟨i, _, h1, h2, _⟩; omega
        rintro k a _ ⟨i, hF, hi, hk, rfl⟩
        refine gc_of hF ?_
        have hv := vLE_lt l at_.toNat i
        refine gc_seq fun K12 hK12 => ?_
        refine gc_region ?_
        refine gl_op rfl rfl rfl (op_pure hT rfl) ?_
        refine gl_nil ?_
        refine hK12 _ _ ?_
        clear hK12; try clear K12
        refine gc_seq fun K13 hK13 => ?_
        refine gc_cond rfl rfl (fun c23 => ?_) (fun c23 => ?_)
        · try simp only [decide_eq_true_eq, decide_eq_false_iff_not, Bool.not_eq_true', Bool.not_eq_false', Int.not_lt, Int.not_le, Nat.not_lt, Nat.not_le, Bool.true_eq, Bool.false_eq, reduceCtorEq] at c23
          refine gc_skip ?_
          refine hK13 _ _ ?_
          clear hK13; try clear K13
          refine gc_seq fun K14 hK14 => ?_
          refine gc_block ?_
          refine gc_seq fun K15 hK15 => ?_
          refine gc_region ?_
          refine gl_op rfl rfl rfl (op_pure hT rfl) ?_
          refine gl_op rfl rfl rfl (op_pure hT rfl) ?_
          refine gl_nil ?_
          refine hK15 _ _ ?_
          clear hK15; try clear K15
          refine gc_region ?_
          refine gl_op rfl rfl rfl (op_pure hT rfl) ?_
          refine gl_op rfl rfl rfl (op_pure hT rfl) ?_
          refine gl_op rfl rfl rfl (op_pure hT rfl) ?_
          refine gl_op rfl rfl rfl (op_pure hT rfl) ?_
          first | refine gl_fit hT rfl rfl rfl rfl (by omega) ?_ | refine gl_op rfl rfl rfl (op_pure hT rfl) ?_
          refine gl_ix (0 : UInt8) hT h1 rfl rfl rfl rfl rfl el5.cellsOf.1 el5.cellsOf.2 rfl (by simp) rfl (by omega) (by first | omega | (simp; omega)) fun p30 hp30 => ?_
          have hx : (at_ + (i : Int)).toNat = at_.toNat + i := by omega
          rw [hx] at hp30
          have hb8 := (l.getD (at_.toNat + i) 0).toNat_lt
          have hs := or_step8 (vLE l at_.toNat i) (l.getD (at_.toNat + i) 0).toNat i (by omega) hv (by omega)
          refine gl_op rfl rfl rfl (op_load hT rfl rfl rfl rfl hp30) ?_
          refine gl_op rfl rfl rfl (op_pure hT rfl) ?_
          refine gl_spell 32 (v := .int .u64 ((l.getD (at_.toNat + i) 0).toNat : Nat)) rfl (by rw [IntKind.wrap_u64, Int.emod_eq_of_lt (by omega) (by omega)]) ?_
          refine gl_op rfl rfl rfl (op_pure hT rfl) ?_
          first | refine gl_fit hT rfl rfl rfl rfl (by omega) ?_ | refine gl_op rfl rfl rfl (op_pure hT rfl) ?_
          refine gl_op rfl rfl rfl (op_shl rfl rfl rfl (by omega) (by first | omega | (simp [IntKind.bits]; omega))) ?_
          refine gl_op rfl rfl rfl (op_pure hT rfl) ?_
          refine gl_spell 36 (v := .int .u64 (vLE l at_.toNat (i + 1) : Nat)) rfl (by rw [hs.1]; rfl) ?_
          refine gl_op rfl rfl rfl (op_pure hT rfl) ?_
          refine gl_nil ?_
          refine hK14 _ _ ?_
          clear hK14; try clear K14
          refine gc_region ?_
          first | refine gl_fit hT rfl rfl rfl rfl (by omega) ?_ | refine gl_op rfl rfl rfl (op_pure hT rfl) ?_
          refine gl_op rfl rfl rfl (op_pure hT rfl) ?_
          refine gl_nil ?_
          intro a ha
          exact ⟨i + 1, ha.sub ⟨rfl, rfl, rfl, rfl, trivial⟩, by omega, by omega, rfl⟩
        · try simp only [decide_eq_true_eq, decide_eq_false_iff_not, Bool.not_eq_true', Bool.not_eq_false', Int.not_lt, Int.not_le, Nat.not_lt, Nat.not_le, Bool.true_eq, Bool.false_eq, reduceCtorEq] at c23
          refine gc_exit ?_
          refine hK10 _ _ ?_
          clear hK10; try clear K10
          refine gc_seq fun K16 hK16 => ?_
          refine gc_seq fun K17 hK17 => ?_
          refine gc_region ?_
          refine gl_op rfl rfl rfl (op_pure hT rfl) ?_
          have hi8 : i = 8 := by omega
          subst hi8
          have h12 : (256 : Nat) ^ 8 = 18446744073709551616 := by decide
          refine gl_callf rfl rfl rfl rfl Tryd.func56 rfl rfl rfl (fine_calls (vLE l at_.toNat 8) (by omega) _) ?_
          rintro _ _ ⟨rfl, n39, rfl⟩
          refine ⟨_, rfl, ?_⟩
          refine gl_op rfl rfl rfl (op_pure hT rfl) ?_
          refine gl_nil ?_
          refine hK17 _ _ ?_
          clear hK17; try clear K17
          refine gc_cond rfl rfl (fun c40 => ?_) (fun c40 => ?_)
          · try simp only [decide_eq_true_eq, decide_eq_false_iff_not, Bool.not_eq_true', Bool.not_eq_false', Int.not_lt, Int.not_le, Nat.not_lt, Nat.not_le, Bool.true_eq, Bool.false_eq, reduceCtorEq] at c40
            refine gc_seq fun K18 hK18 => ?_
            refine gc_region ?_
            refine gl_op rfl rfl rfl (op_pure hT rfl) ?_
            refine gl_op rfl rfl rfl (op_pure hT rfl) ?_
            refine gl_op rfl rfl rfl (op_pure hT rfl) ?_
            refine gl_nil ?_
            refine hK18 _ _ ?_
            clear hK18; try clear K18
            refine gc_ret ?_
            try simp only [x_then_ret, x_block_ret]
            refine gk_ret3 rfl rfl rfl rfl ?_
            exact ⟨by unfold readFloatV; rw [if_neg (by omega), if_neg (by omega), if_pos c40], ⟨_, rfl⟩⟩
          · try simp only [decide_eq_true_eq, decide_eq_false_iff_not, Bool.not_eq_true', Bool.not_eq_false', Int.not_lt, Int.not_le, Nat.not_lt, Nat.not_le, Bool.true_eq, Bool.false_eq, reduceCtorEq] at c40
            refine gc_skip ?_
            refine hK16 _ _ ?_
            clear hK16; try clear K16
            refine gc_seq fun K19 hK19 => ?_
            refine gc_region ?_
            refine gl_op rfl rfl rfl (op_pure hT rfl) ?_
            refine gl_callf rfl rfl rfl rfl Tryd.func34 rfl rfl rfl (ApiFloat_calls _ _) ?_
            rintro _ _ ⟨rfl, n42, rfl⟩
            refine ⟨_, rfl, ?_⟩
            refine gl_op rfl rfl rfl (op_pure hT rfl) ?_
            first | refine gl_fit hT rfl rfl rfl rfl (by omega) ?_ | refine gl_op rfl rfl rfl (op_pure hT rfl) ?_
            refine gl_op rfl rfl rfl (op_pure hT rfl) ?_
            refine gl_op rfl rfl rfl (op_pure hT rfl) ?_
            refine gl_op rfl rfl rfl (op_pure hT rfl) ?_
            refine gl_nil ?_
            refine hK19 _ _ ?_
            clear hK19; try clear K19
            refine gc_ret ?_
            try simp only [x_then_ret, x_block_ret]
            refine gk_ret3 rfl rfl rfl rfl ?_
            exact ⟨by unfold readFloatV; rw [if_neg (by omega), if_neg (by omega), if_neg (by simp [c40])], ⟨_, rfl⟩⟩
theorem rReadFloat_calls (A : Option Addr) (c : Nat) (l : List UInt8) (at_ : Int) (w : World) {ok : Nat → Prop} (h1 : RdE w ok uB A l) (hb : l.length ≤ 4611686018427387904) (hmin : -9223372036854775808 ≤ at_) :
    Calls Tryd.prog 37 ⟨[.slice A l.length c, .int .i64 at_]⟩ w fun e w' => e = .returned (.tuple #[.int .u64 (readFloatV l at_).1, .int .i64 (readFloatV l at_).2.1, .int .i64 (readFloatV l at_).2.2]) ∧ Eqv w w' := by
  refine gc_enter (N := 37) Tryd.func37 rfl rfl rfl [(0, _), (1, _)] rfl ?_
  refine gc_seq fun K1 hK1 => ?_
  refine gc_region ?_
  refine gl_op rfl rfl rfl (op_pure hT rfl) ?_
  refine gl_op rfl rfl rfl (op_pure hT rfl) ?_
  refine gl_op rfl rfl rfl (op_pure hT rfl) ?_
  refine gl_nil ?_
  refine hK1 _ _ ?_
  clear hK1; try clear K1
  refine gc_seq fun K2 hK2 => ?_
  refine gc_seq fun K3 hK3 => ?_
  refine gc_region ?_
  refine gl_op rfl rfl rfl (op_pure hT rfl) ?_
  refine gl_op rfl rfl rfl (op_pure hT rfl) ?_
  refine gl_callf rfl rfl rfl rfl Tryd.func52 rfl rfl rfl (outside_calls A c l at_ _) ?_
  rintro _ _ ⟨rfl, n11, rfl⟩
  refine ⟨_, rfl, ?_⟩
  refine gl_nil ?_
  refine hK3 _ _ ?_
  clear hK3; try clear K3
  refine gc_cond rfl rfl (fun c11 => ?_) (fun c11 => ?_)
  · try simp only [decide_eq_true_eq, decide_eq_false_iff_not, Bool.not_eq_true', Bool.not_eq_false', Int.not_lt, Int.not_le, Nat.not_lt, Nat.not_le, Bool.true_eq, Bool.false_eq, reduceCtorEq] at c11
    refine gc_seq fun K4 hK4 => ?_
    refine gc_region ?_
    refine gl_op rfl rfl rfl (op_pure hT rfl) ?_
    refine gl_op rfl rfl rfl (op_pure hT rfl) ?_
    refine gl_op rfl rfl rfl (op_pure hT rfl) ?_
    refine gl_nil ?_
    refine hK4 _ _ ?_
    clear hK4; try clear K4
    refine gc_ret ?_
    try simp only [x_then_ret, x_block_ret]
    refine gk_ret3 rfl rfl rfl rfl ?_
    have e1 : readFloatV l at_ = (0, 0, 1) := by unfold readFloatV; rw [if_pos (by omega)]
    exact ⟨by rw [e1]; rfl, ⟨_, rfl⟩⟩
  · try simp only [decide_eq_true_eq, decide_eq_false_iff_not, Bool.not_eq_true', Bool.not_eq_false', Int.not_lt, Int.not_le, Nat.not_lt, Nat.not_le, Bool.true_eq, Bool.false_eq, reduceCtorEq] at c11
    refine gc_skip ?_
    refine hK2 _ _ ?_
    clear hK2; try clear K2
    refine gc_seq fun K5 hK5 => ?_
    refine gc_seq fun K6 hK6 => ?_
    refine gc_region ?_
    refine gl_op rfl rfl rfl (op_pure hT rfl) ?_
    refine gl_op rfl rfl rfl (op_pure hT rfl) ?_
    refine gl_op rfl rfl rfl (op_pure hT rfl) ?_
    first | refine gl_fit hT rfl rfl rfl rfl (by omega) ?_ | refine gl_op rfl rfl rfl (op_pure hT rfl) ?_
    refine gl_op rfl rfl rfl (op_pure hT rfl) ?_
    refine gl_nil ?_
    refine hK6 _ _ ?_
    clear hK6; try clear K6
    refine gc_cond rfl rfl (fun c16 => ?_) (fun c16 => ?_)
    · try simp only [decide_eq_true_eq, decide_eq_false_iff_not, Bool.not_eq_true', Bool.not_eq_false', Int.not_lt, Int.not_le, Nat.not_lt, Nat.not_le, Bool.true_eq, Bool.false_eq, reduceCtorEq] at c16
      refine gc_seq fun K7 hK7 => ?_
      refine gc_region ?_
      refine gl_op rfl rfl rfl (op_pure hT rfl) ?_
      refine gl_op rfl rfl rfl (op_pure hT rfl) ?_
      refine gl_op rfl rfl rfl (op_pure hT rfl) ?_
      refine gl_nil ?_
      refine hK7 _ _ ?_
      clear hK7; try clear K7
      refine gc_ret ?_
      try simp only [x_then_ret, x_block_ret]
      refine gk_ret3 rfl rfl rfl rfl ?_
      have e1 : readFloatV l at_ = (0, 0, 10) := by unfold readFloatV; rw [if_neg (by omega), if_pos c16]
      exact ⟨by rw [e1]; rfl, ⟨_, rfl⟩⟩
    · try simp only [decide_eq_true_eq, decide_eq_false_iff_not, Bool.not_eq_true', Bool.not_eq_false', Int.not_lt, Int.not_le, Nat.not_lt, Nat.not_le, Bool.true_eq, Bool.false_eq, reduceCtorEq] at c16
      refine gc_skip ?_
      refine hK5 _ _ ?_
      clear hK5; try clear K5
      refine gc_seq fun K8 hK8 => ?_
      refine gc_region ?_
      refine gl_op rfl rfl rfl (op_pure hT rfl) ?_
      refine gl_nil ?_
      refine hK8 _ _ ?_
      clear hK8; try clear K8
      refine gc_seq fun K9 hK9 => ?_
      refine gc_seq fun K10 hK10 => ?_
      refine gc_region ?_
      refine gl_op rfl rfl rfl (op_pure hT rfl) ?_
      refine gl_nil ?_
      refine hK10 _ _ ?_
      clear hK10; try clear K10
      refine gc_block ?_
      refine gc_loop (fun k a w' => ∃ (m u : Nat), Fr 37 a [(0, .slice A l.length c), (1, .int .i64 at_), (7, .int .u64 u), (8, .int .i64 (7 - (m : Int)))] ∧ m ≤ 8 ∧ k = 9 - m ∧ u < 256 ^ m ∧ u = vHi l at_.toNat (8 - m) m ∧ Eqv w w') 9 ?_ ?_ ?_
      · intro a ha; exact ⟨0, 0, ha.sub ⟨rfl, rfl, rfl, rfl, trivial⟩, by omega, by omega, by decide, rfl, ⟨_, rfl⟩⟩
      · rintro a w ⟨m, u, _, h1, h2, _⟩; omega
      rintro k a _ ⟨m, u, hF, hm, hk, hv, hg, n, rfl⟩
      refine gc_of hF ?_
      have h12 : (256 : Nat) ^ 8 = 18446744073709551616 := by decide
      have hp := pow256_le (i := m) (j := 8) (by omega)
      refine gc_seq fun K11 hK11 => ?_
      refine gc_seq fun K12 hK12 => ?_
      refine gc_region ?_
      refine gl_op rfl rfl rfl (op_pure hT rfl) ?_
      refine gl_op rfl rfl rfl (op_pure hT rfl) ?_
      refine gl_nil ?_
      refine hK12 _ _ ?_
      clear hK12; try clear K12
      refine gc_cond rfl rfl (fun c18 => ?_) (fun c18 => ?_)
      · try simp only [decide_eq_true_eq, decide_eq_false_iff_not, Bool.not_eq_true', Bool.not_eq_false', Int.not_lt, Int.not_le, Nat.not_lt, Nat.not_le, Bool.true_eq, Bool.false_eq, reduceCtorEq] at c18
        refine gc_skip ?_
        refine hK11 _ _ ?_
        clear hK11; try clear K11
        refine gc_seq fun K13 hK13 => ?_
        refine gc_block ?_
        refine gc_region ?_
        refine gl_op rfl rfl rfl (op_pure hT rfl) ?_
        have hp2 := pow256_le (i := m + 1) (j := 8) (by omega)
        have hp3 : 256 ^ (m + 1) = 256 ^ m * 256 := Nat.pow_succ ..
        have hu8 : u * 256 + 255 < 18446744073709551616 := by omega
        refine gl_op rfl rfl rfl (op_pure hT rfl) ?_
        refine gl_spell 22 (v := .int .u64 (u * 256 : Nat)) rfl (by rw [IntKind.wrap_u64, Int.emod_eq_of_lt (by omega) (by omega)]; rfl) ?_
        refine gl_op rfl rfl rfl (op_pure hT rfl) ?_
        refine gl_op rfl rfl rfl (op_pure hT rfl) ?_
        refine gl_op rfl rfl rfl (op_pure hT rfl) ?_
        first | refine gl_fit hT rfl rfl rfl rfl (by omega) ?_ | refine gl_op rfl rfl rfl (op_pure hT rfl) ?_
        refine gl_ix (0 : UInt8) hT h1 rfl rfl rfl rfl rfl el5.cellsOf.1 el5.cellsOf.2 rfl (by simp) rfl (by omega) (by first | omega | (simp; omega)) fun p27 hp27 => ?_
        have hx : (at_ + (7 - (m : Int))).toNat = at_.toNat + (7 - m) := by omega
        rw [hx] at hp27
        have hb8 := (l.getD (at_.toNat + (7 - m)) 0).toNat_lt
        refine gl_op rfl rfl rfl (op_load hT rfl rfl rfl rfl hp27) ?_
        refine gl_op rfl rfl rfl (op_pure hT rfl) ?_
        refine gl_spell 29 (v := .int .u64 ((l.getD (at_.toNat + (7 - m)) 0).toNat : Nat)) rfl (by rw [IntKind.wrap_u64, Int.emod_eq_of_lt (by omega) (by omega)]) ?_
        refine gl_op rfl rfl rfl (op_pure hT rfl) ?_
        refine gl_spell 30 (v := .int .u64 (u * 256 + (l.getD (at_.toNat + (7 - m)) 0).toNat : Nat)) rfl (by rw [IntKind.wrap_u64, Int.emod_eq_of_lt (by omega) (by omega)]; rfl) ?_
        refine gl_op rfl rfl rfl (op_pure hT rfl) ?_
        refine gl_nil ?_
        refine hK13 _ _ ?_
        clear hK13; try clear K13
        refine gc_region ?_
        refine gl_op rfl rfl rfl (op_pure hT rfl) ?_
        first | refine gl_fit hT rfl rfl rfl rfl (by omega) ?_ | refine gl_op rfl rfl rfl (op_pure hT rfl) ?_
        refine gl_op rfl rfl rfl (op_pure hT rfl) ?_
        refine gl_nil ?_
        intro a ha
        refine ⟨m + 1, _, ha.sub ⟨rfl, rfl, rfl, ?_, trivial⟩, by omega, by omega, by omega, ?_, ⟨n, rfl⟩⟩
        · refine congrArg some (?_ : Value.int .i64 _ = Value.int .i64 _)
          congr 1; omega
        · rw [show 8 - (m + 1) = 7 - m by omega, vHi, show 7 - m + 1 = 8 - m by omega, ← hg]; omega
      · try simp only [decide_eq_true_eq, decide_eq_false_iff_not, Bool.not_eq_true', Bool.not_eq_false', Int.not_lt, Int.not_le, Nat.not_lt, Nat.not_le, Bool.true_eq, Bool.false_eq, reduceCtorEq] at c18
        refine gc_exit ?_
        refine hK9 _ _ ?_
        clear hK9; try clear K9
        refine gc_seq fun K14 hK14 => ?_
        refine gc_seq fun K15 hK15 => ?_
        refine gc_region ?_
        refine gl_op rfl rfl rfl (op_pure hT rfl) ?_
        have hm8 : m = 8 := by omega
        subst hm8
        have hvu : vLE l at_.toNat 8 = u := by rw [hg]; exact vLE_all l at_.toNat 8
        refine gl_callf rfl rfl rfl rfl Tryd.func58 rfl rfl rfl (number_calls u (by omega) _) ?_
        rintro _ _ ⟨rfl, n32, rfl⟩
        refine ⟨_, rfl, ?_⟩
        rw [← hvu]
        refine gl_op rfl rfl rfl (op_pure hT rfl) ?_
        refine gl_nil ?_
        refine hK15 _ _ ?_
        clear hK15; try clear K15
        refine gc_cond rfl rfl (fun c33 => ?_) (fun c33 => ?_)
        · try simp only [decide_eq_true_eq, decide_eq_false_iff_not, Bool.not_eq_true', Bool.not_eq_false', Int.not_lt, Int.not_le, Nat.not_lt, Nat.not_le, Bool.true_eq, Bool.false_eq, reduceCtorEq] at c33
          refine gc_seq fun K16 hK16 => ?_
          refine gc_region ?_
          refine gl_op rfl rfl rfl (op_pure hT rfl) ?_
          refine gl_op rfl rfl rfl (op_pure hT rfl) ?_
          refine gl_op rfl rfl rfl (op_pure hT rfl) ?_
          refine gl_nil ?_
          refine hK16 _ _ ?_
          clear hK16; try clear K16
          refine gc_ret ?_
          try simp only [x_then_ret, x_block_ret]
          refine gk_ret3 rfl rfl rfl rfl ?_
          have e1 : readFloatV l at_ = (0, 0, 15) := by unfold readFloatV; rw [if_neg (by omega), if_neg (by omega), if_pos c33]
          exact ⟨by rw [e1]; rfl, ⟨_, rfl⟩⟩
        · try simp only [decide_eq_true_eq, decide_eq_false_iff_not, Bool.not_eq_true', Bool.not_eq_false', Int.not_lt, Int.not_le, Nat.not_lt, Nat.not_le, Bool.true_eq, Bool.false_eq, reduceCtorEq] at c33
          refine gc_skip ?_
          refine hK14 _ _ ?_
          clear hK14; try clear K14
          refine gc_seq fun K17 hK17 => ?_
          refine gc_region ?_
          refine gl_op rfl rfl rfl (op_pure hT rfl) ?_
          refine gl_op rfl rfl rfl (op_pure hT rfl) ?_
          first | refine gl_fit hT rfl rfl rfl rfl (by omega) ?_ | refine gl_op rfl rfl rfl (op_pure hT rfl) ?_
          refine gl_op rfl rfl rfl (op_pure hT rfl) ?_
          refine gl_op rfl rfl rfl (op_pure hT rfl) ?_
          refine gl_op rfl rfl rfl (op_pure hT rfl) ?_
          refine gl_nil ?_
          refine hK17 _ _ ?_
          clear hK17; try clear K17
          refine gc_ret ?_
          try simp only [x_then_ret, x_block_ret]
          refine gk_ret3 rfl rfl rfl rfl ?_
          have e1 : readFloatV l at_ = (vLE l at_.toNat 8, at_ + 8, 0) := by unfold readFloatV; rw [if_neg (by omega), if_neg (by omega), if_neg (by simp [c33])]
          exact ⟨by rw [e1], ⟨_, rfl⟩⟩
theorem WireFloats_calls (u : Nat) (hu : u < 18446744073709551616) (A : Option Addr) (c : Nat) (l : List UInt8) (at_ : Int) (hmin : -9223372036854775808 ≤ at_) (w : World) (hU : Tabs w) {ok : Nat → Prop} (h1 : RdE w ok uB A l) (hc : l.length ≤ c) (hb : l.length ≤ 140737488355328) :
    Calls Tryd.prog 7 ⟨[.int .u64 u, .slice A l.length c, .int .i64 at_]⟩ w fun e w' => e = .returned (.bool true) ∧ Below w.heap.size w w' := by
  have hlen : (l.take 1048676).length ≤ 1048676 := by simp; omega
  refine gc_enter (N := 78) Tryd.func7 rfl rfl rfl [(0, _), (1, _), (2, _)] rfl ?_
  have hS := St.start w
  refine gc_seq fun K1 hK1 => ?_
  refine gc_region ?_
  refine gl_op rfl rfl rfl (op_pure hT rfl) ?_
  refine gl_nil ?_
  refine hK1 _ _ ?_
  clear hK1; try clear K1
  refine gc_seq fun K2 hK2 => ?_
  refine gc_seq fun K3 hK3 => ?_
  refine gc_region ?_
  refine gl_callf rfl rfl rfl rfl Tryd.func15 rfl rfl rfl (told_calls _ hU) ?_
  rintro _ w19 ⟨rfl, hb19⟩
  refine ⟨_, rfl, ?_⟩
  have hS := hS.grown hb19
  refine gl_op rfl rfl rfl (op_pure hT rfl) ?_
  refine gl_nil ?_
  refine hK3 _ _ ?_
  clear hK3; try clear K3
  refine gc_cond_f rfl ?_
  refine gc_skip ?_
  refine hK2 _ _ ?_
  clear hK2; try clear K2
  refine gc_seq fun K4 hK4 => ?_
  refine gc_region ?_
  refine gl_op rfl rfl rfl (op_pure hT rfl) ?_
  refine gl_callf rfl rfl rfl rfl Tryd.func34 rfl rfl rfl (ApiFloat_calls u _) ?_
  rintro _ _ ⟨rfl, n23, rfl⟩
  refine ⟨_, rfl, ?_⟩
  have hS := hS.dr n23
  refine gl_callf rfl rfl rfl rfl Tryd.func33 rfl rfl rfl (Float_calls u hu _) ?_
  rintro _ w24 ⟨A24, c24, rfl, hr24, hb24⟩
  refine ⟨_, rfl, ?_⟩
  have hS := hS.addRow hb24 hr24
  refine gl_op rfl rfl rfl (op_pure hT rfl) ?_
  refine gl_op rfl rfl rfl (op_pure hT rfl) ?_
  refine gl_op rfl rfl rfl (op_pure hT rfl) ?_
  refine gl_op rfl rfl rfl (op_pure hT rfl) ?_
  refine gl_op rfl rfl rfl (op_pure hT rfl) ?_
  refine gl_nil ?_
  refine hK4 _ _ ?_
  clear hK4; try clear K4
  refine gc_seq fun K5 hK5 => ?_
  refine gc_region ?_
  refine gl_op rfl rfl rfl (op_pure hT rfl) ?_
  refine gl_callf rfl rfl rfl rfl Tryd.func35 rfl rfl rfl (rFloat_calls u hu _) ?_
  rintro _ w29 ⟨A29, c29, rfl, hr29, hb29⟩
  refine ⟨_, rfl, ?_⟩
  have hS := hS.addRow hb29 hr29
  refine gl_op rfl rfl rfl (op_pure hT rfl) ?_
  refine gl_op rfl rfl rfl (op_pure hT rfl) ?_
  refine gl_op rfl rfl rfl (op_pure hT rfl) ?_
  refine gl_op rfl rfl rfl (op_pure hT rfl) ?_
  refine gl_op rfl rfl rfl (op_pure hT rfl) ?_
  refine gl_nil ?_
  refine hK5 _ _ ?_
  clear hK5; try clear K5
  refine gc_seq fun K6 hK6 => ?_
  refine gc_seq fun K7 hK7 => ?_
  refine gc_region ?_
  refine gl_op rfl rfl rfl (op_pure hT rfl) ?_
  refine gl_op rfl rfl rfl (op_pure hT rfl) ?_
  refine gl_op rfl rfl rfl (op_pure hT rfl) ?_
  refine gl_spell 34 (v := .bool false) rfl (by simp) ?_
  refine gl_op rfl rfl rfl (op_pure hT rfl) ?_
  refine gl_un rfl rfl rfl rfl ?_
  refine gl_op rfl rfl rfl (op_pure hT rfl) ?_
  refine gl_un rfl rfl rfl rfl ?_
  refine gl_op rfl rfl rfl (op_pure hT rfl) ?_
  refine gl_un rfl rfl rfl rfl ?_
  refine gl_callf rfl rfl rfl rfl Tryd.func18 rfl rfl rfl (Same_calls _ _ _ _ (floatV u).1 (floatV u).1 _ (hS.rdE (i := 0) rfl) (hS.rdE (i := 1) rfl) (by have := (hS.cap (i := 0) rfl); omega)) ?_
  rintro _ _ ⟨rfl, n38, rfl⟩
  refine ⟨_, rfl, ?_⟩
  have hS := hS.dr n38
  refine gl_spell 38 (v := .bool true) rfl (by simp) ?_
  refine gl_un rfl rfl rfl rfl ?_
  refine gl_op rfl rfl rfl (op_pure hT rfl) ?_
  refine gl_op rfl rfl rfl (op_pure hT rfl) ?_
  refine gl_nil ?_
  refine hK7 _ _ ?_
  clear hK7; try clear K7
  refine gc_cond_f rfl ?_
  refine gc_skip ?_
  refine hK6 _ _ ?_
  clear hK6; try clear K6
  refine gc_seq fun K8 hK8 => ?_
  refine gc_region ?_
  refine gl_op rfl rfl rfl (op_pure hT rfl) ?_
  refine gl_callf rfl rfl rfl rfl Tryd.func19 rfl rfl rfl (Laid_calls A c l _ (h1.old hS) hc) ?_
  rintro _ w42 ⟨A42, c42, rfl, hr42, hb42⟩
  refine ⟨_, rfl, ?_⟩
  have hS := hS.addRow hb42 hr42
  refine gl_op rfl rfl rfl (op_pure hT rfl) ?_
  refine gl_callf rfl rfl rfl rfl Tryd.func19 rfl rfl rfl (Laid_calls A c l _ (h1.old hS) hc) ?_
  rintro _ w44 ⟨A44, c44, rfl, hr44, hb44⟩
  refine ⟨_, rfl, ?_⟩
  have hS := hS.addRow hb44 hr44
  refine gl_op rfl rfl rfl (op_pure hT rfl) ?_
  refine gl_op rfl rfl rfl (op_pure hT rfl) ?_
  refine gl_nil ?_
  refine hK8 _ _ ?_
  clear hK8; try clear K8
  refine gc_seq fun K9 hK9 => ?_
  refine gc_region ?_
  refine gl_op rfl rfl rfl (op_pure hT rfl) ?_
  refine gl_op rfl rfl rfl (op_pure hT rfl) ?_
  refine gl_callf rfl rfl rfl rfl Tryd.func36 rfl rfl rfl (ReadFloat_calls A42 c42 (l.take 1048676) at_ _ (laid_rd 2 hS rfl) (by omega) hmin) ?_
  rintro _ _ ⟨rfl, n48, rfl⟩
  refine ⟨_, rfl, ?_⟩
  have hS := hS.dr n48
  refine gl_op rfl rfl rfl (op_pure hT rfl) ?_
  refine gl_op rfl rfl rfl (op_pure hT rfl) ?_
  refine gl_op rfl rfl rfl (op_pure hT rfl) ?_
  refine gl_op rfl rfl rfl (op_pure hT rfl) ?_
  refine gl_op rfl rfl rfl (op_pure hT rfl) ?_
  refine gl_op rfl rfl rfl (op_pure hT rfl) ?_
  refine gl_op rfl rfl rfl (op_pure hT rfl) ?_
  refine gl_nil ?_
  refine hK9 _ _ ?_
  clear hK9; try clear K9
  refine gc_seq fun K10 hK10 => ?_
  refine gc_region ?_
  refine gl_op rfl rfl rfl (op_pure hT rfl) ?_
  refine gl_op rfl rfl rfl (op_pure hT rfl) ?_
  refine gl_callf rfl rfl rfl rfl Tryd.func37 rfl rfl rfl (rReadFloat_calls A44 c44 (l.take 1048676) at_ _ (laid_rd 3 hS rfl) (by omega) hmin) ?_
  rintro _ _ ⟨rfl, n55, rfl⟩
  refine ⟨_, rfl, ?_⟩
  have hS := hS.dr n55
  refine gl_op rfl rfl rfl (op_pure hT rfl) ?_
  refine gl_op rfl rfl rfl (op_pure hT rfl) ?_
  refine gl_op rfl rfl rfl (op_pure hT rfl) ?_
  refine gl_op rfl rfl rfl (op_pure hT rfl) ?_
  refine gl_op rfl rfl rfl (op_pure hT rfl) ?_
  refine gl_op rfl rfl rfl (op_pure hT rfl) ?_
  refine gl_op rfl rfl rfl (op_pure hT rfl) ?_
  refine gl_nil ?_
  refine hK10 _ _ ?_
  clear hK10; try clear K10
  refine gc_seq fun K11 hK11 => ?_
  refine gc_region ?_
  refine gl_op rfl rfl rfl (op_pure hT rfl) ?_
  refine gl_callf rfl rfl rfl rfl Tryd.func38 rfl rfl rfl (Bits_calls _ _) ?_
  rintro _ _ ⟨rfl, n60, rfl⟩
  refine ⟨_, rfl, ?_⟩
  have hS := hS.dr n60
  refine gl_op rfl rfl rfl (op_pure hT rfl) ?_
  refine gl_op rfl rfl rfl (op_pure hT rfl) ?_
  refine gl_spell 62 (v := .bool true) rfl (by simp) ?_
  refine gl_op rfl rfl rfl (op_pure hT rfl) ?_
  refine gl_un rfl rfl rfl rfl ?_
  refine gl_op rfl rfl rfl (op_pure hT rfl) ?_
  refine gl_un rfl rfl rfl rfl ?_
  refine gl_op rfl rfl rfl (op_pure hT rfl) ?_
  refine gl_un rfl rfl rfl rfl ?_
  refine gl_op rfl rfl rfl (op_pure hT rfl) ?_
  refine gl_spell 66 (v := .bool true) rfl (by simp) ?_
  refine gl_op rfl rfl rfl (op_pure hT rfl) ?_
  refine gl_op rfl rfl rfl (op_pure hT rfl) ?_
  refine gl_un rfl rfl rfl rfl ?_
  refine gl_op rfl rfl rfl (op_pure hT rfl) ?_
  refine gl_un rfl rfl rfl rfl ?_
  refine gl_op rfl rfl rfl (op_pure hT rfl) ?_
  refine gl_un rfl rfl rfl rfl ?_
  refine gl_op rfl rfl rfl (op_pure hT rfl) ?_
  refine gl_spell 71 (v := .bool true) rfl (by simp) ?_
  refine gl_op rfl rfl rfl (op_pure hT rfl) ?_
  refine gl_op rfl rfl rfl (op_pure hT rfl) ?_
  refine gl_un rfl rfl rfl rfl ?_
  refine gl_op rfl rfl rfl (op_pure hT rfl) ?_
  refine gl_un rfl rfl rfl rfl ?_
  refine gl_op rfl rfl rfl (op_pure hT rfl) ?_
  refine gl_un rfl rfl rfl rfl ?_
  have hcap := (hS.cap (i := 2) rfl).1
  refine gl_callf rfl rfl rfl rfl Tryd.func22 rfl rfl rfl (Intact_calls A42 A44 c42 c44 (l.take 1048676) [201, 202, 203] (l.take 1048676) _ (laid_rd3 2 hS rfl) rfl (by omega) (by omega) (laid_rd 3 hS rfl)) ?_
  rintro _ w76 ⟨rfl, hb76⟩
  refine ⟨_, rfl, ?_⟩
  have hS := hS.grown hb76
  refine gl_spell 76 (v := .bool true) rfl (by simp) ?_
  refine gl_op rfl rfl rfl (op_pure hT rfl) ?_
  refine gl_op rfl rfl rfl (op_pure hT rfl) ?_
  refine gl_nil ?_
  refine hK11 _ _ ?_
  clear hK11; try clear K11
  refine gc_ret ?_
  try simp only [x_then_ret, x_block_ret]
  refine gk_ret1 rfl rfl ?_
  exact ⟨rfl, hS.below⟩
end Go.Proofs.YtpeomdobcobdiaaDoor
