/- The walks of WireBack. No condition. -/
import Derived.Test.YtpeomdobcobdiaaDoorWA
import Derived.Test.YtpeomdobcobdiaaDoorWF
import Derived.Test.YtpeomdobcobdiaaDoorLaw3
import Derived.Test.YtpeomdobcobdiaaDoorTy2
namespace Go.Proofs.YtpeomdobcobdiaaDoor
open Go.RowKit
set_option linter.unusedVariables false
set_option linter.unusedSimpArgs false
@[reducible] def thC (t : Th) (A : Option Addr) (c : Nat) : List Value := [.int .i64 t.k, .int .i64 t.n, .int .u64 (t.u : Nat), .string t.s, .slice A t.b.length c]
@[reducible] def thV (t : Th) (A : Option Addr) (c : Nat) : Value := .agg ⟨thC t A c⟩
@[reducible] def thZ : List Value := [.int .i64 0, .int .i64 0, .int .u64 0, .string ⟨#[]⟩, .slice none 0 0]
theorem u64_xor (a b : Nat) (ha : a < 18446744073709551616) (hb : b < 18446744073709551616) : Go.bits .xor .u64 (a : Int) (b : Int) = ((a ^^^ b : Nat) : Int) := by
  show Go.IntKind.u64.wrap ((BitVec.ofInt 64 (a : Int) ^^^ BitVec.ofInt 64 (b : Int)).toNat : Int) = _
  have h3 : a ^^^ b < 2 ^ 64 := Nat.xor_lt_two_pow ha hb
  rw [BitVec.toNat_xor, ofInt_u64 a ha, ofInt_u64 b hb, IntKind.wrap_u64]
  omega
theorem i64_and3 (k : Int) (h : -9223372036854775808 ≤ k ∧ k ≤ 9223372036854775807) : Go.bits .and .i64 k 3 = k % 4 := by
  show Go.IntKind.i64.wrap ((BitVec.ofInt 64 k &&& BitVec.ofInt 64 3).toNat : Int) = _
  have h2 : (BitVec.ofInt 64 3).toNat = 2 ^ 2 - 1 := by decide
  have h1 : ((BitVec.ofInt 64 k).toNat : Int) = k % 18446744073709551616 := by
    rw [BitVec.toNat_ofInt]
    have : 0 ≤ k % ((2 ^ 64 : Nat) : Int) := Int.emod_nonneg _ (by decide)
    rw [Int.toNat_of_nonneg this]; rfl
  rw [BitVec.toNat_and, h2, Nat.and_two_pow_sub_one_eq_mod, IntKind.wrap_i64]
  push_cast
  rw [h1]
  omega
theorem mended_calls (t : Th) (A : Option Addr) (c : Nat) (w : World) (hU : Tabs w) (hn : -9223372036854775808 ≤ t.n ∧ t.n ≤ 9223372036854775807) (hu : t.u < 18446744073709551616) (hs : t.s.size ≤ 4611686018427387904) (hc : t.b.length ≤ c) :
    Calls Tryd.prog 47 ⟨[thV t A c]⟩ w fun e w' => e = .returned (thV (mend t) A c) ∧ Below w.heap.size w w' := by
  obtain ⟨k, n, u, s, b⟩ := t
  simp only at hn hu hs hc
  show Calls _ _ ⟨[Value.agg ⟨[Value.int .i64 k, .int .i64 n, .int .u64 (u : Nat), .string s, .slice A b.length c]⟩]⟩ w _
  refine gc_enter (N := 48) Tryd.func47 rfl rfl rfl [(0, _)] rfl ?_
  have hS := St.start w
  refine gc_seq fun K1 hK1 => ?_
  refine gc_region ?_
  refine gl_box hS rfl rfl rfl rfl rfl fun g1 w1 hS => ?_
  refine gl_alloc el85 hS rfl rfl rfl rfl fun g2 w2 hS => ?_
  refine gl_nil ?_
  refine hK1 _ _ ?_
  clear hK1; try clear K1
  refine gc_cut (fun a w' => Fr 48 a [(1, .pointer (some ⟨g1, 0, none⟩)), (2, .pointer (some ⟨g2, 0, none⟩))] ∧ St w.heap.size w w' [.blk g1 85 [.int .i64 k, .int .i64 (mN n), .int .u64 (u : Nat), .string s, .slice A b.length c], .blk g2 85 thZ]) ?_ ?_
  · skip
    refine gc_seq fun K2 hK2 => ?_
    refine gc_region ?_
    refine gl_op rfl rfl rfl (op_fieldB 1 rfl Tryd.underlying85 rfl el3 rfl rfl) ?_
    refine gl_op rfl rfl rfl (op_loadB 0 hT hS rfl rfl rfl rfl rfl rfl) ?_
    refine gl_op rfl rfl rfl (op_pure hT rfl) ?_
    refine gl_nil ?_
    refine hK2 _ _ ?_
    clear hK2; try clear K2
    refine gc_cond rfl rfl (fun c7 => ?_) (fun c7 => ?_)
    · try simp only [decide_eq_true_eq, decide_eq_false_iff_not, Bool.not_eq_true', Bool.not_eq_false', Int.not_lt, Int.not_le, Nat.not_lt, Nat.not_le, Bool.true_eq, Bool.false_eq, reduceCtorEq] at c7
      refine gc_region ?_
      refine gl_op rfl rfl rfl (op_fieldB 1 rfl Tryd.underlying85 rfl el3 rfl rfl) ?_
      refine gl_op rfl rfl rfl (op_loadB 0 hT hS rfl rfl rfl rfl rfl rfl) ?_
      first | refine gl_fit hT rfl rfl rfl rfl (by omega) ?_ | refine gl_op rfl rfl rfl (op_pure hT rfl) ?_
      refine gl_op rfl rfl rfl (op_pure hT rfl) ?_
      refine gl_spell 11 (v := .int .i64 (mN n)) rfl (by unfold mN; rw [if_pos (by omega), wrap_i64 (by omega)]; congr 1; omega) ?_
      refine gl_op rfl rfl rfl (op_fieldB 1 rfl Tryd.underlying85 rfl el3 rfl rfl) ?_
      refine gl_store 0 hS el3.cellsOf.1 el3.cellsOf.2 rfl rfl rfl rfl rfl rfl rfl rfl fun woutright_go_23 hS => ?_
      refine gl_nil ?_
      intro a ha
      refine ⟨ha.sub ⟨rfl, rfl, trivial⟩, ?_⟩
      first
        | exact hS
        | (rw [show mN n = n by unfold mN; rw [if_neg (by omega)]]; exact hS)
    · try simp only [decide_eq_true_eq, decide_eq_false_iff_not, Bool.not_eq_true', Bool.not_eq_false', Int.not_lt, Int.not_le, Nat.not_lt, Nat.not_le, Bool.true_eq, Bool.false_eq, reduceCtorEq] at c7
      refine gc_skip ?_
      intro a ha
      refine ⟨ha.sub ⟨rfl, rfl, trivial⟩, ?_⟩
      first
        | exact hS
        | (rw [show mN n = n by unfold mN; rw [if_neg (by omega)]]; exact hS)
  rintro a w1 ⟨hF, hS⟩
  refine gc_of hF ?_
  clear hF
  refine gc_cut (fun a w' => Fr 48 a [(1, .pointer (some ⟨g1, 0, none⟩)), (2, .pointer (some ⟨g2, 0, none⟩))] ∧ St w.heap.size w w' [.blk g1 85 [.int .i64 k, .int .i64 (mN n), .int .u64 (mU u : Nat), .string s, .slice A b.length c], .blk g2 85 thZ]) ?_ ?_
  · skip
    refine gc_seq fun K3 hK3 => ?_
    refine gc_region ?_
    refine gl_op rfl rfl rfl (op_fieldB 2 rfl Tryd.underlying85 rfl el53 rfl rfl) ?_
    refine gl_op rfl rfl rfl (op_loadB 0 hT hS rfl rfl rfl rfl rfl rfl) ?_
    refine gl_op rfl rfl rfl (op_pure hT rfl) ?_
    have e1 : (u : Int) / 2 ^ 52 = ((u / 4503599627370496 : Nat) : Int) := by omega
    refine gl_op rfl rfl rfl (op_pure hT rfl) ?_
    refine gl_spell 16 (v := .int .u64 ((u / 4503599627370496 % 2048 : Nat) : Int)) rfl ?_ ?_
    · show Value.int .u64 (bits .and .u64 ((u : Int) / 2 ^ 52) 2047) = _
      rw [e1, u64_and2047 _ (by omega)]
    refine gl_op rfl rfl rfl (op_pure hT rfl) ?_
    refine gl_nil ?_
    refine hK3 _ _ ?_
    clear hK3; try clear K3
    refine gc_cond rfl rfl (fun c17 => ?_) (fun c17 => ?_)
    · try simp only [decide_eq_true_eq, decide_eq_false_iff_not, Bool.not_eq_true', Bool.not_eq_false', Int.not_lt, Int.not_le, Nat.not_lt, Nat.not_le, Bool.true_eq, Bool.false_eq, reduceCtorEq] at c17
      refine gc_region ?_
      refine gl_op rfl rfl rfl (op_fieldB 2 rfl Tryd.underlying85 rfl el53 rfl rfl) ?_
      refine gl_op rfl rfl rfl (op_loadB 0 hT hS rfl rfl rfl rfl rfl rfl) ?_
      refine gl_op rfl rfl rfl (op_pure hT rfl) ?_
      refine gl_spell 20 (v := .int .u64 (mU u : Nat)) rfl ?_ ?_
      · show Value.int .u64 (bits .xor .u64 (u : Nat) ((1152921504606846976 : Nat) : Int)) = _
        rw [u64_xor _ _ hu (by decide)]
        unfold mU; rw [if_pos (by unfold numB; rw [decide_eq_true (by omega)]; rfl)]
      refine gl_op rfl rfl rfl (op_fieldB 2 rfl Tryd.underlying85 rfl el53 rfl rfl) ?_
      refine gl_store 0 hS el53.cellsOf.1 el53.cellsOf.2 rfl rfl rfl rfl rfl rfl rfl rfl fun woutright_go_26 hS => ?_
      refine gl_nil ?_
      intro a ha
      refine ⟨ha.sub ⟨rfl, rfl, trivial⟩, ?_⟩
      first
        | exact hS
        | (rw [show mU u = u by unfold mU; rw [if_neg (by unfold numB; rw [decide_eq_false (by omega)]; decide)]]; exact hS)
    · try simp only [decide_eq_true_eq, decide_eq_false_iff_not, Bool.not_eq_true', Bool.not_eq_false', Int.not_lt, Int.not_le, Nat.not_lt, Nat.not_le, Bool.true_eq, Bool.false_eq, reduceCtorEq] at c17
      refine gc_skip ?_
      intro a ha
      refine ⟨ha.sub ⟨rfl, rfl, trivial⟩, ?_⟩
      first
        | exact hS
        | (rw [show mU u = u by unfold mU; rw [if_neg (by unfold numB; rw [decide_eq_false (by omega)]; decide)]]; exact hS)
  rintro a w1 ⟨hF, hS⟩
  refine gc_of hF ?_
  clear hF
  refine gc_cut (fun a w' => Fr 48 a [(1, .pointer (some ⟨g1, 0, none⟩)), (2, .pointer (some ⟨g2, 0, none⟩))] ∧ St w.heap.size w w' [.blk g1 85 [.int .i64 k, .int .i64 (mN n), .int .u64 (mU u : Nat), .string (mC s), .slice A b.length c], .blk g2 85 thZ]) ?_ ?_
  · skip
    refine gc_seq fun K4 hK4 => ?_
    refine gc_region ?_
    refine gl_op rfl rfl rfl (op_fieldB 3 rfl Tryd.underlying85 rfl el9 rfl rfl) ?_
    refine gl_op rfl rfl rfl (op_loadB 0 hT hS rfl rfl rfl rfl rfl rfl) ?_
    refine gl_op rfl rfl rfl (op_pure hT rfl) ?_
    refine gl_op rfl rfl rfl (op_pure hT rfl) ?_
    refine gl_nil ?_
    refine hK4 _ _ ?_
    clear hK4; try clear K4
    refine gc_cond rfl rfl (fun c25 => ?_) (fun c25 => ?_)
    · try simp only [decide_eq_true_eq, decide_eq_false_iff_not, Bool.not_eq_true', Bool.not_eq_false', Int.not_lt, Int.not_le, Nat.not_lt, Nat.not_le, Bool.true_eq, Bool.false_eq, reduceCtorEq] at c25
      refine gc_region ?_
      refine gl_op rfl rfl rfl (op_fieldB 3 rfl Tryd.underlying85 rfl el9 rfl rfl) ?_
      refine gl_op rfl rfl rfl (op_loadB 0 hT hS rfl rfl rfl rfl rfl rfl) ?_
      refine gl_op rfl rfl rfl (op_str_h hT rfl rfl rfl rfl (by first | omega | (simp; omega)) (by first | omega | (simp; omega))) ?_
      refine gl_op rfl rfl rfl (op_fieldB 3 rfl Tryd.underlying85 rfl el9 rfl rfl) ?_
      refine gl_store 0 hS el9.cellsOf.1 el9.cellsOf.2 rfl rfl rfl rfl rfl rfl rfl rfl fun woutright_go_29 hS => ?_
      refine gl_nil ?_
      intro a ha
      refine ⟨ha.sub ⟨rfl, rfl, trivial⟩, ?_⟩
      first
        | (rw [show mC s = s by unfold mC; rw [if_neg (by omega)]]; exact hS)
        | (rw [show mC s = s.extract 0 (3000 : Int).toNat by unfold mC; rw [if_pos (by omega)]; rfl]; exact hS)
    · try simp only [decide_eq_true_eq, decide_eq_false_iff_not, Bool.not_eq_true', Bool.not_eq_false', Int.not_lt, Int.not_le, Nat.not_lt, Nat.not_le, Bool.true_eq, Bool.false_eq, reduceCtorEq] at c25
      refine gc_skip ?_
      intro a ha
      refine ⟨ha.sub ⟨rfl, rfl, trivial⟩, ?_⟩
      first
        | (rw [show mC s = s by unfold mC; rw [if_neg (by omega)]]; exact hS)
        | (rw [show mC s = s.extract 0 (3000 : Int).toNat by unfold mC; rw [if_pos (by omega)]; rfl]; exact hS)
  rintro a w1 ⟨hF, hS⟩
  refine gc_of hF ?_
  clear hF
  have hC : (mC s).size ≤ 4611686018427387904 := by
    unfold mC; split
    · simp; omega
    · omega
  refine gc_seq fun K5 hK5 => ?_
  refine gc_region ?_
  refine gl_op rfl rfl rfl (op_fieldB 3 rfl Tryd.underlying85 rfl el9 rfl rfl) ?_
  refine gl_op rfl rfl rfl (op_loadB 0 hT hS rfl rfl rfl rfl rfl rfl) ?_
  refine gl_callf rfl rfl rfl rfl Tryd.func25 rfl rfl rfl (Runes_calls (mC s) hC _ (hU.old hS)) ?_
  rintro _ w33 ⟨rfl, hb33⟩
  refine ⟨_, rfl, ?_⟩
  have hS := hS.grown hb33
  refine gl_op rfl rfl rfl (op_pure hT rfl) ?_
  refine gl_op rfl rfl rfl (op_pure hT rfl) ?_
  refine gl_op rfl rfl rfl (op_pure hT rfl) ?_
  refine gl_op rfl rfl rfl (op_pure hT rfl) ?_
  refine gl_op rfl rfl rfl (op_pure hT rfl) ?_
  refine gl_nil ?_
  refine hK5 _ _ ?_
  clear hK5; try clear K5
  refine gc_cut (fun a w' => Fr 48 a [(1, .pointer (some ⟨g1, 0, none⟩)), (2, .pointer (some ⟨g2, 0, none⟩))] ∧ St w.heap.size w w' [.blk g1 85 [.int .i64 k, .int .i64 (mN n), .int .u64 (mU u : Nat), .string (mS s), .slice A b.length c], .blk g2 85 thZ]) ?_ ?_
  · skip
    refine gc_seq fun K6 hK6 => ?_
    refine gc_region ?_
    refine gl_op rfl rfl rfl (op_pure hT rfl) ?_
    refine gl_op rfl rfl rfl (op_pure hT rfl) ?_
    refine gl_nil ?_
    refine hK6 _ _ ?_
    clear hK6; try clear K6
    refine gc_cond rfl rfl (fun c37 => ?_) (fun c37 => ?_)
    · try simp only [decide_eq_true_eq, decide_eq_false_iff_not, Bool.not_eq_true', Bool.not_eq_false', Int.not_lt, Int.not_le, Nat.not_lt, Nat.not_le, Bool.true_eq, Bool.false_eq, reduceCtorEq] at c37
      refine gc_region ?_
      refine gl_op rfl rfl rfl (op_fieldB 3 rfl Tryd.underlying85 rfl el9 rfl rfl) ?_
      refine gl_store 0 hS el9.cellsOf.1 el9.cellsOf.2 rfl rfl rfl rfl rfl rfl rfl rfl fun woutright_go_33 hS => ?_
      refine gl_nil ?_
      intro a ha
      refine ⟨ha.sub ⟨rfl, rfl, trivial⟩, ?_⟩
      first
        | (rw [show mS s = ⟨#[195, 169]⟩ by unfold mS; rw [if_pos (by simpa using c37)]]; exact hS)
        | (rw [show mS s = mC s by unfold mS; rw [if_neg (by simpa using c37)]]; exact hS)
    · try simp only [decide_eq_true_eq, decide_eq_false_iff_not, Bool.not_eq_true', Bool.not_eq_false', Int.not_lt, Int.not_le, Nat.not_lt, Nat.not_le, Bool.true_eq, Bool.false_eq, reduceCtorEq] at c37
      refine gc_skip ?_
      intro a ha
      refine ⟨ha.sub ⟨rfl, rfl, trivial⟩, ?_⟩
      first
        | (rw [show mS s = ⟨#[195, 169]⟩ by unfold mS; rw [if_pos (by simpa using c37)]]; exact hS)
        | (rw [show mS s = mC s by unfold mS; rw [if_neg (by simpa using c37)]]; exact hS)
  rintro a w1 ⟨hF, hS⟩
  refine gc_of hF ?_
  clear hF
  refine gc_cut (fun a w' => Fr 48 a [(1, .pointer (some ⟨g1, 0, none⟩)), (2, .pointer (some ⟨g2, 0, none⟩))] ∧ St w.heap.size w w' [.blk g1 85 (thC (mend ⟨k, n, u, s, b⟩) A c), .blk g2 85 thZ]) ?_ ?_
  · skip
    refine gc_seq fun K7 hK7 => ?_
    refine gc_region ?_
    refine gl_op rfl rfl rfl (op_fieldB 4 rfl Tryd.underlying85 rfl el22 rfl rfl) ?_
    refine gl_op rfl rfl rfl (op_loadB 0 hT hS rfl rfl rfl rfl rfl rfl) ?_
    refine gl_op rfl rfl rfl (op_pure hT rfl) ?_
    refine gl_op rfl rfl rfl (op_pure hT rfl) ?_
    refine gl_nil ?_
    refine hK7 _ _ ?_
    clear hK7; try clear K7
    refine gc_cond rfl rfl (fun c42 => ?_) (fun c42 => ?_)
    · try simp only [decide_eq_true_eq, decide_eq_false_iff_not, Bool.not_eq_true', Bool.not_eq_false', Int.not_lt, Int.not_le, Nat.not_lt, Nat.not_le, Bool.true_eq, Bool.false_eq, reduceCtorEq] at c42
      refine gc_region ?_
      refine gl_op rfl rfl rfl (op_fieldB 4 rfl Tryd.underlying85 rfl el22 rfl rfl) ?_
      refine gl_op rfl rfl rfl (op_loadB 0 hT hS rfl rfl rfl rfl rfl rfl) ?_
      refine gl_op rfl rfl rfl (op_slice_h hT el5 rfl rfl rfl rfl (by first | omega | (simp; omega)) (by first | omega | (simp; omega))) ?_
      refine gl_op rfl rfl rfl (op_fieldB 4 rfl Tryd.underlying85 rfl el22 rfl rfl) ?_
      refine gl_store 0 hS el22.cellsOf.1 el22.cellsOf.2 rfl rfl rfl rfl rfl rfl rfl rfl fun woutright_go_36 hS => ?_
      refine gl_nil ?_
      intro a ha
      refine ⟨ha.sub ⟨rfl, rfl, trivial⟩, ?_⟩
      show St w.heap.size w _ [.blk g1 85 [.int .i64 k, .int .i64 (mN n), .int .u64 (mU u : Nat), .string (mS s), .slice A (b.take 3000).length c], .blk g2 85 thZ]
      first
        | (rw [show (b.take 3000).length = b.length by simp; omega]; exact hS)
        | (rw [show (b.take 3000).length = (3000 : Int).toNat by rw [List.length_take, Nat.min_eq_left (by omega)]; rfl]; exact hS)
    · try simp only [decide_eq_true_eq, decide_eq_false_iff_not, Bool.not_eq_true', Bool.not_eq_false', Int.not_lt, Int.not_le, Nat.not_lt, Nat.not_le, Bool.true_eq, Bool.false_eq, reduceCtorEq] at c42
      refine gc_skip ?_
      intro a ha
      refine ⟨ha.sub ⟨rfl, rfl, trivial⟩, ?_⟩
      show St w.heap.size w _ [.blk g1 85 [.int .i64 k, .int .i64 (mN n), .int .u64 (mU u : Nat), .string (mS s), .slice A (b.take 3000).length c], .blk g2 85 thZ]
      first
        | (rw [show (b.take 3000).length = b.length by simp; omega]; exact hS)
        | (rw [show (b.take 3000).length = (3000 : Int).toNat by rw [List.length_take, Nat.min_eq_left (by omega)]; rfl]; exact hS)
  rintro a w1 ⟨hF, hS⟩
  refine gc_of hF ?_
  clear hF
  refine gc_seq fun K8 hK8 => ?_
  refine gc_region ?_
  refine gl_op rfl rfl rfl (op_loadG 0 Tryd.underlying85 rfl el85 hS rfl rfl rfl rfl rfl) ?_
  refine gl_storeM 1 hS el85 rfl rfl rfl rfl rfl rfl rfl rfl rfl fun woutright_go_38 hS => ?_
  refine gl_nil ?_
  refine hK8 _ _ ?_
  clear hK8; try clear K8
  refine gc_ret ?_
  try simp only [x_then_ret, x_block_ret]
  refine gk_res1 rfl (⟨_, rfl, run_loadVarB 1 Tryd.underlying85 rfl el85 hS rfl rfl rfl⟩) ?_
  exact ⟨rfl, hS.below⟩
theorem wrote_calls (t : Th) (A : Option Addr) (c : Nat) (w : World) (hU : Tabs w) (hk : -9223372036854775808 ≤ t.k ∧ t.k ≤ 9223372036854775807) (hn : t.n ≤ 9223372036854775807) (hu : t.u < 18446744073709551616) (hs : t.s.size ≤ 140737488000000) {ok : Nat → Prop} (h1 : RdE w ok uB A t.b) (hb : t.b.length ≤ 4611686018427387904) :
    Calls Tryd.prog 48 ⟨[thV t A c]⟩ w fun e w' => ∃ A' c', e = .returned (.tuple #[.slice A' (wroteV (t.k % 4) t).1.length c', .bool (decide ((wroteV (t.k % 4) t).2 = 0) && decide (0 < (wroteV (t.k % 4) t).1.length))]) ∧
      Owns w' w.heap.size A' c' 5 1 (wroteV (t.k % 4) t).1.length ((wroteV (t.k % 4) t).1.map uB) ∧ Below w.heap.size w w' := by
  obtain ⟨k, n, u, s, b⟩ := t
  simp only at hk hn hu hs hb h1
  show Calls _ _ ⟨[Value.agg ⟨[Value.int .i64 k, .int .i64 n, .int .u64 (u : Nat), .string s, .slice A b.length c]⟩]⟩ w fun e w' => ∃ A' c', e = .returned (.tuple #[.slice A' (wroteV (k % 4) ⟨k, n, u, s, b⟩).1.length c', .bool (decide ((wroteV (k % 4) ⟨k, n, u, s, b⟩).2 = 0) && decide (0 < (wroteV (k % 4) ⟨k, n, u, s, b⟩).1.length))]) ∧
      Owns w' w.heap.size A' c' 5 1 (wroteV (k % 4) ⟨k, n, u, s, b⟩).1.length ((wroteV (k % 4) ⟨k, n, u, s, b⟩).1.map uB) ∧ Below w.heap.size w w'
  refine gc_enter (N := 48) Tryd.func48 rfl rfl rfl [(0, _)] rfl ?_
  have hS := St.start w
  refine gc_seq fun K1 hK1 => ?_
  refine gc_region ?_
  refine gl_box hS rfl rfl rfl rfl rfl fun g1 w1 hS => ?_
  refine gl_op rfl rfl rfl (op_pure hT rfl) ?_
  refine gl_op rfl rfl rfl (op_pure hT rfl) ?_
  refine gl_nil ?_
  refine hK1 _ _ ?_
  clear hK1; try clear K1
  refine gc_seq fun K2 hK2 => ?_
  refine gc_region ?_
  refine gl_op rfl rfl rfl (op_pure hT rfl) ?_
  refine gl_nil ?_
  refine hK2 _ _ ?_
  clear hK2; try clear K2
  refine gc_seq fun K3 hK3 => ?_
  refine gc_region ?_
  refine gl_op rfl rfl rfl (op_pure hT rfl) ?_
  refine gl_nil ?_
  refine hK3 _ _ ?_
  clear hK3; try clear K3
  refine gc_cut (fun a w' => ∃ A' c', Fr 48 a [(1, .pointer (some ⟨g1, 0, none⟩)), (4, .slice A' (wroteV (k % 4) ⟨k, n, u, s, b⟩).1.length c'), (5, .int .i64 (wroteV (k % 4) ⟨k, n, u, s, b⟩).2)] ∧
  St w.heap.size w w' [.blk g1 85 [.int .i64 k, .int .i64 n, .int .u64 (u : Nat), .string s, .slice A b.length c], .row A' c' 5 1 (wroteV (k % 4) ⟨k, n, u, s, b⟩).1.length ((wroteV (k % 4) ⟨k, n, u, s, b⟩).1.map uB)]) ?_ ?_
  · skip
    refine gc_seq fun K4 hK4 => ?_
    refine gc_region ?_
    refine gl_op rfl rfl rfl (op_fieldB 0 rfl Tryd.underlying85 rfl el3 rfl rfl) ?_
    refine gl_op rfl rfl rfl (op_loadB 0 hT hS rfl rfl rfl rfl rfl rfl) ?_
    refine gl_op rfl rfl rfl (op_pure hT rfl) ?_
    refine gl_spell 8 (v := .int .i64 (k % 4)) rfl (by rw [i64_and3 k hk]) ?_
    refine gl_nil ?_
    refine hK4 _ _ ?_
    clear hK4; try clear K4
    refine gc_block ?_
    refine gc_seq fun K5 hK5 => ?_
    refine gc_region ?_
    refine gl_op rfl rfl rfl (op_pure hT rfl) ?_
    refine gl_op rfl rfl rfl (op_pure hT rfl) ?_
    refine gl_nil ?_
    refine hK5 _ _ ?_
    clear hK5; try clear K5
    refine gc_cond rfl rfl (fun c15 => ?_) (fun c15 => ?_)
    · try simp only [decide_eq_true_eq, decide_eq_false_iff_not, Bool.not_eq_true', Bool.not_eq_false', Int.not_lt, Int.not_le, Nat.not_lt, Nat.not_le, Bool.true_eq, Bool.false_eq, reduceCtorEq] at c15
      refine gc_region ?_
      refine gl_op rfl rfl rfl (op_fieldB 1 rfl Tryd.underlying85 rfl el3 rfl rfl) ?_
      refine gl_op rfl rfl rfl (op_loadB 0 hT hS rfl rfl rfl rfl rfl rfl) ?_
      refine gl_callf rfl rfl rfl rfl Tryd.func16 rfl rfl rfl (Uint_calls n hn _) ?_
      rintro _ w20 ⟨A20, c20, rfl, hr20, hb20⟩
      refine ⟨_, rfl, ?_⟩
      have hS := hS.addRow hb20 hr20
      refine gl_op rfl rfl rfl (op_pure hT rfl) ?_
      refine gl_op rfl rfl rfl (op_pure hT rfl) ?_
      refine gl_op rfl rfl rfl (op_pure hT rfl) ?_
      refine gl_op rfl rfl rfl (op_pure hT rfl) ?_
      refine gl_op rfl rfl rfl (op_pure hT rfl) ?_
      refine gl_nil ?_
      intro a ha
      first
        | (rw [show wroteV (k % 4) ⟨k, n, u, s, b⟩ = uintV n by unfold wroteV; rw [if_pos (by omega)]]; exact ⟨A20, c20, ha.sub ⟨rfl, rfl, rfl, trivial⟩, hS⟩)
        | (rw [show wroteV (k % 4) ⟨k, n, u, s, b⟩ = floatV u by unfold wroteV; rw [if_neg (by omega), if_pos (by omega)]]; exact ⟨A29, c29, ha.sub ⟨rfl, rfl, rfl, trivial⟩, hS⟩)
        | (rw [show wroteV (k % 4) ⟨k, n, u, s, b⟩ = textV s by unfold wroteV; rw [if_neg (by omega), if_neg (by omega), if_pos (by omega)]]; exact ⟨A37, c37, ha.sub ⟨rfl, rfl, rfl, trivial⟩, hS⟩)
        | (rw [show wroteV (k % 4) ⟨k, n, u, s, b⟩ = frameV b by unfold wroteV; rw [if_neg (by omega), if_neg (by omega), if_neg (by omega)]]; exact ⟨A12, c12, ha.sub ⟨rfl, rfl, rfl, trivial⟩, hS⟩)
    · try simp only [decide_eq_true_eq, decide_eq_false_iff_not, Bool.not_eq_true', Bool.not_eq_false', Int.not_lt, Int.not_le, Nat.not_lt, Nat.not_le, Bool.true_eq, Bool.false_eq, reduceCtorEq] at c15
      refine gc_seq fun K6 hK6 => ?_
      refine gc_region ?_
      refine gl_op rfl rfl rfl (op_pure hT rfl) ?_
      refine gl_op rfl rfl rfl (op_pure hT rfl) ?_
      refine gl_nil ?_
      refine hK6 _ _ ?_
      clear hK6; try clear K6
      refine gc_cond rfl rfl (fun c23 => ?_) (fun c23 => ?_)
      · try simp only [decide_eq_true_eq, decide_eq_false_iff_not, Bool.not_eq_true', Bool.not_eq_false', Int.not_lt, Int.not_le, Nat.not_lt, Nat.not_le, Bool.true_eq, Bool.false_eq, reduceCtorEq] at c23
        refine gc_region ?_
        refine gl_op rfl rfl rfl (op_fieldB 2 rfl Tryd.underlying85 rfl el53 rfl rfl) ?_
        refine gl_op rfl rfl rfl (op_loadB 0 hT hS rfl rfl rfl rfl rfl rfl) ?_
        refine gl_callf rfl rfl rfl rfl Tryd.func34 rfl rfl rfl (ApiFloat_calls u _) ?_
        rintro _ _ ⟨rfl, n28, rfl⟩
        refine ⟨_, rfl, ?_⟩
        have hS := hS.dr n28
        refine gl_callf rfl rfl rfl rfl Tryd.func33 rfl rfl rfl (Float_calls u hu _) ?_
        rintro _ w29 ⟨A29, c29, rfl, hr29, hb29⟩
        refine ⟨_, rfl, ?_⟩
        have hS := hS.addRow hb29 hr29
        refine gl_op rfl rfl rfl (op_pure hT rfl) ?_
        refine gl_op rfl rfl rfl (op_pure hT rfl) ?_
        refine gl_op rfl rfl rfl (op_pure hT rfl) ?_
        refine gl_op rfl rfl rfl (op_pure hT rfl) ?_
        refine gl_op rfl rfl rfl (op_pure hT rfl) ?_
        refine gl_nil ?_
        intro a ha
        first
          | (rw [show wroteV (k % 4) ⟨k, n, u, s, b⟩ = uintV n by unfold wroteV; rw [if_pos (by omega)]]; exact ⟨A20, c20, ha.sub ⟨rfl, rfl, rfl, trivial⟩, hS⟩)
          | (rw [show wroteV (k % 4) ⟨k, n, u, s, b⟩ = floatV u by unfold wroteV; rw [if_neg (by omega), if_pos (by omega)]]; exact ⟨A29, c29, ha.sub ⟨rfl, rfl, rfl, trivial⟩, hS⟩)
          | (rw [show wroteV (k % 4) ⟨k, n, u, s, b⟩ = textV s by unfold wroteV; rw [if_neg (by omega), if_neg (by omega), if_pos (by omega)]]; exact ⟨A37, c37, ha.sub ⟨rfl, rfl, rfl, trivial⟩, hS⟩)
          | (rw [show wroteV (k % 4) ⟨k, n, u, s, b⟩ = frameV b by unfold wroteV; rw [if_neg (by omega), if_neg (by omega), if_neg (by omega)]]; exact ⟨A12, c12, ha.sub ⟨rfl, rfl, rfl, trivial⟩, hS⟩)
      · try simp only [decide_eq_true_eq, decide_eq_false_iff_not, Bool.not_eq_true', Bool.not_eq_false', Int.not_lt, Int.not_le, Nat.not_lt, Nat.not_le, Bool.true_eq, Bool.false_eq, reduceCtorEq] at c23
        refine gc_seq fun K7 hK7 => ?_
        refine gc_region ?_
        refine gl_op rfl rfl rfl (op_pure hT rfl) ?_
        refine gl_op rfl rfl rfl (op_pure hT rfl) ?_
        refine gl_nil ?_
        refine hK7 _ _ ?_
        clear hK7; try clear K7
        refine gc_cond rfl rfl (fun c32 => ?_) (fun c32 => ?_)
        · try simp only [decide_eq_true_eq, decide_eq_false_iff_not, Bool.not_eq_true', Bool.not_eq_false', Int.not_lt, Int.not_le, Nat.not_lt, Nat.not_le, Bool.true_eq, Bool.false_eq, reduceCtorEq] at c32
          refine gc_region ?_
          refine gl_op rfl rfl rfl (op_fieldB 3 rfl Tryd.underlying85 rfl el9 rfl rfl) ?_
          refine gl_op rfl rfl rfl (op_loadB 0 hT hS rfl rfl rfl rfl rfl rfl) ?_
          refine gl_callf rfl rfl rfl rfl Tryd.func29 rfl rfl rfl (Text_calls s hs _ (hU.old hS)) ?_
          rintro _ w37 ⟨A37, c37, rfl, hr37, hb37⟩
          refine ⟨_, rfl, ?_⟩
          have hS := hS.addRow hb37 hr37
          refine gl_op rfl rfl rfl (op_pure hT rfl) ?_
          refine gl_op rfl rfl rfl (op_pure hT rfl) ?_
          refine gl_op rfl rfl rfl (op_pure hT rfl) ?_
          refine gl_op rfl rfl rfl (op_pure hT rfl) ?_
          refine gl_op rfl rfl rfl (op_pure hT rfl) ?_
          refine gl_nil ?_
          intro a ha
          first
            | (rw [show wroteV (k % 4) ⟨k, n, u, s, b⟩ = uintV n by unfold wroteV; rw [if_pos (by omega)]]; exact ⟨A20, c20, ha.sub ⟨rfl, rfl, rfl, trivial⟩, hS⟩)
            | (rw [show wroteV (k % 4) ⟨k, n, u, s, b⟩ = floatV u by unfold wroteV; rw [if_neg (by omega), if_pos (by omega)]]; exact ⟨A29, c29, ha.sub ⟨rfl, rfl, rfl, trivial⟩, hS⟩)
            | (rw [show wroteV (k % 4) ⟨k, n, u, s, b⟩ = textV s by unfold wroteV; rw [if_neg (by omega), if_neg (by omega), if_pos (by omega)]]; exact ⟨A37, c37, ha.sub ⟨rfl, rfl, rfl, trivial⟩, hS⟩)
            | (rw [show wroteV (k % 4) ⟨k, n, u, s, b⟩ = frameV b by unfold wroteV; rw [if_neg (by omega), if_neg (by omega), if_neg (by omega)]]; exact ⟨A12, c12, ha.sub ⟨rfl, rfl, rfl, trivial⟩, hS⟩)
        · try simp only [decide_eq_true_eq, decide_eq_false_iff_not, Bool.not_eq_true', Bool.not_eq_false', Int.not_lt, Int.not_le, Nat.not_lt, Nat.not_le, Bool.true_eq, Bool.false_eq, reduceCtorEq] at c32
          refine gc_region ?_
          refine gl_op rfl rfl rfl (op_fieldB 4 rfl Tryd.underlying85 rfl el22 rfl rfl) ?_
          refine gl_op rfl rfl rfl (op_loadB 0 hT hS rfl rfl rfl rfl rfl rfl) ?_
          refine gl_callf rfl rfl rfl rfl Tryd.func40 rfl rfl rfl (Frame_calls A c b _ (h1.old hS) hb) ?_
          rintro _ w12 ⟨A12, c12, rfl, hr12, hb12⟩
          refine ⟨_, rfl, ?_⟩
          have hS := hS.addRow hb12 hr12
          refine gl_op rfl rfl rfl (op_pure hT rfl) ?_
          refine gl_op rfl rfl rfl (op_pure hT rfl) ?_
          refine gl_op rfl rfl rfl (op_pure hT rfl) ?_
          refine gl_op rfl rfl rfl (op_pure hT rfl) ?_
          refine gl_op rfl rfl rfl (op_pure hT rfl) ?_
          refine gl_nil ?_
          intro a ha
          first
            | (rw [show wroteV (k % 4) ⟨k, n, u, s, b⟩ = uintV n by unfold wroteV; rw [if_pos (by omega)]]; exact ⟨A20, c20, ha.sub ⟨rfl, rfl, rfl, trivial⟩, hS⟩)
            | (rw [show wroteV (k % 4) ⟨k, n, u, s, b⟩ = floatV u by unfold wroteV; rw [if_neg (by omega), if_pos (by omega)]]; exact ⟨A29, c29, ha.sub ⟨rfl, rfl, rfl, trivial⟩, hS⟩)
            | (rw [show wroteV (k % 4) ⟨k, n, u, s, b⟩ = textV s by unfold wroteV; rw [if_neg (by omega), if_neg (by omega), if_pos (by omega)]]; exact ⟨A37, c37, ha.sub ⟨rfl, rfl, rfl, trivial⟩, hS⟩)
            | (rw [show wroteV (k % 4) ⟨k, n, u, s, b⟩ = frameV b by unfold wroteV; rw [if_neg (by omega), if_neg (by omega), if_neg (by omega)]]; exact ⟨A12, c12, ha.sub ⟨rfl, rfl, rfl, trivial⟩, hS⟩)
  rintro a w1 ⟨A', c', hF, hS⟩
  refine gc_of hF ?_
  clear hF
  generalize wroteV (k % 4) ⟨k, n, u, s, b⟩ = X at hS ⊢
  refine gc_seq fun K8 hK8 => ?_
  refine gc_region ?_
  refine gl_op rfl rfl rfl (op_pure hT rfl) ?_
  refine gl_op rfl rfl rfl (op_pure hT rfl) ?_
  refine gl_op rfl rfl rfl (op_pure hT rfl) ?_
  refine gl_op rfl rfl rfl (op_pure hT rfl) ?_
  refine gl_split (t := 43) rfl (fun c43 => ?_) (fun c43 => ?_)
  · try simp only [decide_eq_true_eq, decide_eq_false_iff_not, Bool.not_eq_true', Bool.not_eq_false', Int.not_lt, Int.not_le, Nat.not_lt, Nat.not_le, Bool.true_eq, Bool.false_eq, reduceCtorEq] at c43
    refine gl_un rfl rfl rfl rfl ?_
    refine gl_op rfl rfl rfl (op_pure hT rfl) ?_
    refine gl_un rfl rfl rfl rfl ?_
    refine gl_op rfl rfl rfl (op_pure hT rfl) ?_
    refine gl_un rfl rfl rfl rfl ?_
    refine gl_op rfl rfl rfl (op_pure hT rfl) ?_
    refine gl_op rfl rfl rfl (op_pure hT rfl) ?_
    refine gl_op rfl rfl rfl (op_pure hT rfl) ?_
    refine gl_op rfl rfl rfl (op_pure hT rfl) ?_
    refine gl_nil ?_
    refine hK8 _ _ ?_
    clear hK8; try clear K8
    refine gc_ret ?_
    try simp only [x_then_ret, x_block_ret]
    refine gk_ret2 rfl rfl rfl ?_
    refine ⟨A', c', ?_, (hS.out (i := 1) rfl).1, hS.below⟩
    congr 3
    first
      | (rw [decide_eq_true (show X.2 = 0 by omega), Bool.true_and]; congr 1; congr 1; simp)
      | (rw [decide_eq_false (show ¬ X.2 = 0 by omega), Bool.false_and])
  · try simp only [decide_eq_true_eq, decide_eq_false_iff_not, Bool.not_eq_true', Bool.not_eq_false', Int.not_lt, Int.not_le, Nat.not_lt, Nat.not_le, Bool.true_eq, Bool.false_eq, reduceCtorEq] at c43
    refine gl_pass rfl rfl rfl rfl rfl rfl ?_
    refine gl_pass rfl rfl rfl rfl rfl rfl ?_
    refine gl_pass rfl rfl rfl rfl rfl rfl ?_
    refine gl_op rfl rfl rfl (op_pure hT rfl) ?_
    refine gl_op rfl rfl rfl (op_pure hT rfl) ?_
    refine gl_op rfl rfl rfl (op_pure hT rfl) ?_
    refine gl_nil ?_
    refine hK8 _ _ ?_
    clear hK8; try clear K8
    refine gc_ret ?_
    try simp only [x_then_ret, x_block_ret]
    refine gk_ret2 rfl rfl rfl ?_
    refine ⟨A', c', ?_, (hS.out (i := 1) rfl).1, hS.below⟩
    congr 3
    first
      | (rw [decide_eq_true (show X.2 = 0 by omega), Bool.true_and]; congr 1; congr 1; simp)
      | (rw [decide_eq_false (show ¬ X.2 = 0 by omega), Bool.false_and])
theorem reads_calls (k : Int) (A : Option Addr) (c : Nat) (l : List UInt8) (at_ : Int) (w : World) (hU : Tabs w) (hk : -9223372036854775808 ≤ k ∧ k ≤ 9223372036854775807) {ok : Nat → Prop} (h1 : RdE w ok uB A l) (hb : l.length ≤ 140737488355328) (hc : l.length ≤ c) (hmin : -9223372036854775808 ≤ at_) :
    Calls Tryd.prog 49 ⟨[.int .i64 k, .slice A l.length c, .int .i64 at_]⟩ w fun e w' => ∃ A' c', e = .returned (.tuple #[thV (readsV (k % 4) l at_).1 A' c', .int .i64 (readsV (k % 4) l at_).2.1, .int .i64 (readsV (k % 4) l at_).2.2]) ∧
      Owns w' w.heap.size A' c' 5 1 (readsV (k % 4) l at_).1.b.length ((readsV (k % 4) l at_).1.b.map uB) ∧ Below w.heap.size w w' := by
  refine gc_enter (N := 61) Tryd.func49 rfl rfl rfl [(0, _), (1, _), (2, _)] rfl ?_
  have hS := St.start w
  refine gc_seq fun K1 hK1 => ?_
  refine gc_region ?_
  refine gl_alloc el85 hS rfl rfl rfl rfl fun g6 w6 hS => ?_
  refine gl_op rfl rfl rfl (op_pure hT rfl) ?_
  refine gl_op rfl rfl rfl (op_pure hT rfl) ?_
  refine gl_nil ?_
  refine hK1 _ _ ?_
  clear hK1; try clear K1
  refine gc_seq fun K2 hK2 => ?_
  refine gc_region ?_
  refine gl_op rfl rfl rfl (op_pure hT rfl) ?_
  refine gl_op rfl rfl rfl (op_pure hT rfl) ?_
  refine gl_spell 14 (v := .int .i64 (k % 4)) rfl (by rw [i64_and3 k hk]) ?_
  refine gl_op rfl rfl rfl (op_buildG rfl plan85 rfl rfl) ?_
  refine gl_alloc el85 hS rfl rfl rfl rfl fun g9 w9 hS => ?_
  refine gl_storeM 1 hS el85 rfl rfl rfl rfl rfl rfl rfl rfl rfl fun woutright_go_60 hS => ?_
  refine gl_nil ?_
  refine hK2 _ _ ?_
  clear hK2; try clear K2
  refine gc_seq fun K3 hK3 => ?_
  refine gc_region ?_
  refine gl_op rfl rfl rfl (op_pure hT rfl) ?_
  refine gl_nil ?_
  refine hK3 _ _ ?_
  clear hK3; try clear K3
  refine gc_seq fun K4 hK4 => ?_
  refine gc_region ?_
  refine gl_op rfl rfl rfl (op_pure hT rfl) ?_
  refine gl_nil ?_
  refine hK4 _ _ ?_
  clear hK4; try clear K4
  refine gc_cut (fun a w' => ∃ A' c', Fr 61 a [(6, .pointer (some ⟨g6, 0, none⟩)), (9, .pointer (some ⟨g9, 0, none⟩)), (10, .int .i64 (readsV (k % 4) l at_).2.1), (11, .int .i64 (readsV (k % 4) l at_).2.2)] ∧
  St w.heap.size w w' [.blk g6 85 thZ, .blk g9 85 (thC (readsV (k % 4) l at_).1 A' c'), .row A' c' 5 1 (readsV (k % 4) l at_).1.b.length ((readsV (k % 4) l at_).1.b.map uB)]) ?_ ?_
  · skip
    refine gc_seq fun K5 hK5 => ?_
    refine gc_region ?_
    refine gl_op rfl rfl rfl (op_pure hT rfl) ?_
    refine gl_op rfl rfl rfl (op_pure hT rfl) ?_
    refine gl_spell 17 (v := .int .i64 (k % 4)) rfl (by rw [i64_and3 k hk]) ?_
    refine gl_nil ?_
    refine hK5 _ _ ?_
    clear hK5; try clear K5
    refine gc_block ?_
    refine gc_seq fun K6 hK6 => ?_
    refine gc_region ?_
    refine gl_op rfl rfl rfl (op_pure hT rfl) ?_
    refine gl_op rfl rfl rfl (op_pure hT rfl) ?_
    refine gl_nil ?_
    refine hK6 _ _ ?_
    clear hK6; try clear K6
    refine gc_cond rfl rfl (fun c26 => ?_) (fun c26 => ?_)
    · try simp only [decide_eq_true_eq, decide_eq_false_iff_not, Bool.not_eq_true', Bool.not_eq_false', Int.not_lt, Int.not_le, Nat.not_lt, Nat.not_le, Bool.true_eq, Bool.false_eq, reduceCtorEq] at c26
      refine gc_region ?_
      refine gl_op rfl rfl rfl (op_pure hT rfl) ?_
      refine gl_op rfl rfl rfl (op_pure hT rfl) ?_
      refine gl_callf rfl rfl rfl rfl Tryd.func20 rfl rfl rfl (ReadUint_calls A c l at_ _ (h1.old hS) (by omega)) ?_
      rintro _ _ ⟨rfl, n31, rfl⟩
      refine ⟨_, rfl, ?_⟩
      have hS := hS.dr n31
      refine gl_op rfl rfl rfl (op_pure hT rfl) ?_
      refine gl_op rfl rfl rfl (op_pure hT rfl) ?_
      refine gl_op rfl rfl rfl (op_pure hT rfl) ?_
      refine gl_op rfl rfl rfl (op_pure hT rfl) ?_
      refine gl_op rfl rfl rfl (op_fieldB 1 rfl Tryd.underlying85 rfl el3 rfl rfl) ?_
      refine gl_store 1 hS el3.cellsOf.1 el3.cellsOf.2 rfl rfl rfl rfl rfl rfl rfl rfl fun woutright_go_65 hS => ?_
      refine gl_op rfl rfl rfl (op_pure hT rfl) ?_
      refine gl_op rfl rfl rfl (op_pure hT rfl) ?_
      refine gl_nil ?_
      intro a ha
      have hS0 := hS.nil 5 1
      first
        | (rw [show readsV (k % 4) l at_ = ({ th0 (k % 4) with n := (readUV l at_).1 }, (readUV l at_).2.1, (readUV l at_).2.2) by unfold readsV; rw [if_pos (by omega)]]; exact ⟨none, 0, ha.sub ⟨rfl, rfl, rfl, rfl, trivial⟩, hS0⟩)
        | (rw [show readsV (k % 4) l at_ = ({ th0 (k % 4) with u := (readFloatV l at_).1 }, (readFloatV l at_).2.1, (readFloatV l at_).2.2) by unfold readsV; rw [if_neg (by omega), if_pos (by omega)]]; exact ⟨none, 0, ha.sub ⟨rfl, rfl, rfl, rfl, trivial⟩, hS0⟩)
        | (rw [show readsV (k % 4) l at_ = ({ th0 (k % 4) with s := (readTextV l at_ 1048576).1 }, (readTextV l at_ 1048576).2.1, (readTextV l at_ 1048576).2.2) by unfold readsV; rw [if_neg (by omega), if_neg (by omega), if_pos (by omega)]]; exact ⟨none, 0, ha.sub ⟨rfl, rfl, rfl, rfl, trivial⟩, hS0⟩)
        | (rw [show readsV (k % 4) l at_ = ({ th0 (k % 4) with b := (readFrameV l at_).1 }, (readFrameV l at_).2.1, (readFrameV l at_).2.2) by unfold readsV; rw [if_neg (by omega), if_neg (by omega), if_neg (by omega)]]; exact ⟨A21, c21, ha.sub ⟨rfl, rfl, rfl, rfl, trivial⟩, hS⟩)
    · try simp only [decide_eq_true_eq, decide_eq_false_iff_not, Bool.not_eq_true', Bool.not_eq_false', Int.not_lt, Int.not_le, Nat.not_lt, Nat.not_le, Bool.true_eq, Bool.false_eq, reduceCtorEq] at c26
      refine gc_seq fun K7 hK7 => ?_
      refine gc_region ?_
      refine gl_op rfl rfl rfl (op_pure hT rfl) ?_
      refine gl_op rfl rfl rfl (op_pure hT rfl) ?_
      refine gl_nil ?_
      refine hK7 _ _ ?_
      clear hK7; try clear K7
      refine gc_cond rfl rfl (fun c36 => ?_) (fun c36 => ?_)
      · try simp only [decide_eq_true_eq, decide_eq_false_iff_not, Bool.not_eq_true', Bool.not_eq_false', Int.not_lt, Int.not_le, Nat.not_lt, Nat.not_le, Bool.true_eq, Bool.false_eq, reduceCtorEq] at c36
        refine gc_seq fun K8 hK8 => ?_
        refine gc_region ?_
        refine gl_op rfl rfl rfl (op_pure hT rfl) ?_
        refine gl_nil ?_
        refine hK8 _ _ ?_
        clear hK8; try clear K8
        refine gc_seq fun K9 hK9 => ?_
        refine gc_region ?_
        refine gl_op rfl rfl rfl (op_pure hT rfl) ?_
        refine gl_op rfl rfl rfl (op_pure hT rfl) ?_
        refine gl_callf rfl rfl rfl rfl Tryd.func36 rfl rfl rfl (ReadFloat_calls A c l at_ _ (h1.old hS) (by omega) hmin) ?_
        rintro _ _ ⟨rfl, n41, rfl⟩
        refine ⟨_, rfl, ?_⟩
        have hS := hS.dr n41
        refine gl_op rfl rfl rfl (op_pure hT rfl) ?_
        refine gl_op rfl rfl rfl (op_pure hT rfl) ?_
        refine gl_op rfl rfl rfl (op_pure hT rfl) ?_
        refine gl_op rfl rfl rfl (op_pure hT rfl) ?_
        refine gl_op rfl rfl rfl (op_pure hT rfl) ?_
        refine gl_op rfl rfl rfl (op_pure hT rfl) ?_
        refine gl_op rfl rfl rfl (op_pure hT rfl) ?_
        refine gl_nil ?_
        refine hK9 _ _ ?_
        clear hK9; try clear K9
        refine gc_region ?_
        refine gl_op rfl rfl rfl (op_pure hT rfl) ?_
        refine gl_callf rfl rfl rfl rfl Tryd.func38 rfl rfl rfl (Bits_calls _ _) ?_
        rintro _ _ ⟨rfl, n46, rfl⟩
        refine ⟨_, rfl, ?_⟩
        have hS := hS.dr n46
        refine gl_op rfl rfl rfl (op_fieldB 2 rfl Tryd.underlying85 rfl el53 rfl rfl) ?_
        refine gl_store 1 hS el53.cellsOf.1 el53.cellsOf.2 rfl rfl rfl rfl rfl rfl rfl rfl fun woutright_go_69 hS => ?_
        refine gl_nil ?_
        intro a ha
        have hS0 := hS.nil 5 1
        first
          | (rw [show readsV (k % 4) l at_ = ({ th0 (k % 4) with n := (readUV l at_).1 }, (readUV l at_).2.1, (readUV l at_).2.2) by unfold readsV; rw [if_pos (by omega)]]; exact ⟨none, 0, ha.sub ⟨rfl, rfl, rfl, rfl, trivial⟩, hS0⟩)
          | (rw [show readsV (k % 4) l at_ = ({ th0 (k % 4) with u := (readFloatV l at_).1 }, (readFloatV l at_).2.1, (readFloatV l at_).2.2) by unfold readsV; rw [if_neg (by omega), if_pos (by omega)]]; exact ⟨none, 0, ha.sub ⟨rfl, rfl, rfl, rfl, trivial⟩, hS0⟩)
          | (rw [show readsV (k % 4) l at_ = ({ th0 (k % 4) with s := (readTextV l at_ 1048576).1 }, (readTextV l at_ 1048576).2.1, (readTextV l at_ 1048576).2.2) by unfold readsV; rw [if_neg (by omega), if_neg (by omega), if_pos (by omega)]]; exact ⟨none, 0, ha.sub ⟨rfl, rfl, rfl, rfl, trivial⟩, hS0⟩)
          | (rw [show readsV (k % 4) l at_ = ({ th0 (k % 4) with b := (readFrameV l at_).1 }, (readFrameV l at_).2.1, (readFrameV l at_).2.2) by unfold readsV; rw [if_neg (by omega), if_neg (by omega), if_neg (by omega)]]; exact ⟨A21, c21, ha.sub ⟨rfl, rfl, rfl, rfl, trivial⟩, hS⟩)
      · try simp only [decide_eq_true_eq, decide_eq_false_iff_not, Bool.not_eq_true', Bool.not_eq_false', Int.not_lt, Int.not_le, Nat.not_lt, Nat.not_le, Bool.true_eq, Bool.false_eq, reduceCtorEq] at c36
        refine gc_seq fun K10 hK10 => ?_
        refine gc_region ?_
        refine gl_op rfl rfl rfl (op_pure hT rfl) ?_
        refine gl_op rfl rfl rfl (op_pure hT rfl) ?_
        refine gl_nil ?_
        refine hK10 _ _ ?_
        clear hK10; try clear K10
        refine gc_cond rfl rfl (fun c48 => ?_) (fun c48 => ?_)
        · try simp only [decide_eq_true_eq, decide_eq_false_iff_not, Bool.not_eq_true', Bool.not_eq_false', Int.not_lt, Int.not_le, Nat.not_lt, Nat.not_le, Bool.true_eq, Bool.false_eq, reduceCtorEq] at c48
          refine gc_region ?_
          refine gl_op rfl rfl rfl (op_pure hT rfl) ?_
          refine gl_op rfl rfl rfl (op_pure hT rfl) ?_
          refine gl_callf rfl rfl rfl rfl Tryd.func31 rfl rfl rfl (ReadText_calls A c l at_ 1048576 _ (h1.old hS) (by omega) hc (hU.old hS)) ?_
          rintro _ w53 ⟨rfl, hb53⟩
          refine ⟨_, rfl, ?_⟩
          have hS := hS.grown hb53
          refine gl_op rfl rfl rfl (op_pure hT rfl) ?_
          refine gl_op rfl rfl rfl (op_pure hT rfl) ?_
          refine gl_op rfl rfl rfl (op_pure hT rfl) ?_
          refine gl_op rfl rfl rfl (op_pure hT rfl) ?_
          refine gl_op rfl rfl rfl (op_fieldB 3 rfl Tryd.underlying85 rfl el9 rfl rfl) ?_
          refine gl_store 1 hS el9.cellsOf.1 el9.cellsOf.2 rfl rfl rfl rfl rfl rfl rfl rfl fun woutright_go_71 hS => ?_
          refine gl_op rfl rfl rfl (op_pure hT rfl) ?_
          refine gl_op rfl rfl rfl (op_pure hT rfl) ?_
          refine gl_nil ?_
          intro a ha
          have hS0 := hS.nil 5 1
          first
            | (rw [show readsV (k % 4) l at_ = ({ th0 (k % 4) with n := (readUV l at_).1 }, (readUV l at_).2.1, (readUV l at_).2.2) by unfold readsV; rw [if_pos (by omega)]]; exact ⟨none, 0, ha.sub ⟨rfl, rfl, rfl, rfl, trivial⟩, hS0⟩)
            | (rw [show readsV (k % 4) l at_ = ({ th0 (k % 4) with u := (readFloatV l at_).1 }, (readFloatV l at_).2.1, (readFloatV l at_).2.2) by unfold readsV; rw [if_neg (by omega), if_pos (by omega)]]; exact ⟨none, 0, ha.sub ⟨rfl, rfl, rfl, rfl, trivial⟩, hS0⟩)
            | (rw [show readsV (k % 4) l at_ = ({ th0 (k % 4) with s := (readTextV l at_ 1048576).1 }, (readTextV l at_ 1048576).2.1, (readTextV l at_ 1048576).2.2) by unfold readsV; rw [if_neg (by omega), if_neg (by omega), if_pos (by omega)]]; exact ⟨none, 0, ha.sub ⟨rfl, rfl, rfl, rfl, trivial⟩, hS0⟩)
            | (rw [show readsV (k % 4) l at_ = ({ th0 (k % 4) with b := (readFrameV l at_).1 }, (readFrameV l at_).2.1, (readFrameV l at_).2.2) by unfold readsV; rw [if_neg (by omega), if_neg (by omega), if_neg (by omega)]]; exact ⟨A21, c21, ha.sub ⟨rfl, rfl, rfl, rfl, trivial⟩, hS⟩)
        · try simp only [decide_eq_true_eq, decide_eq_false_iff_not, Bool.not_eq_true', Bool.not_eq_false', Int.not_lt, Int.not_le, Nat.not_lt, Nat.not_le, Bool.true_eq, Bool.false_eq, reduceCtorEq] at c48
          refine gc_region ?_
          refine gl_op rfl rfl rfl (op_pure hT rfl) ?_
          refine gl_op rfl rfl rfl (op_pure hT rfl) ?_
          refine gl_callf rfl rfl rfl rfl Tryd.func42 rfl rfl rfl (ReadFrame_calls A c l at_ _ (h1.old hS) hb hc) ?_
          rintro _ w21 ⟨A21, c21, rfl, hr21, hb21⟩
          refine ⟨_, rfl, ?_⟩
          have hS := hS.addRow hb21 hr21
          refine gl_op rfl rfl rfl (op_pure hT rfl) ?_
          refine gl_op rfl rfl rfl (op_pure hT rfl) ?_
          refine gl_op rfl rfl rfl (op_pure hT rfl) ?_
          refine gl_op rfl rfl rfl (op_pure hT rfl) ?_
          refine gl_op rfl rfl rfl (op_fieldB 4 rfl Tryd.underlying85 rfl el22 rfl rfl) ?_
          refine gl_store 1 hS el22.cellsOf.1 el22.cellsOf.2 rfl rfl rfl rfl rfl rfl rfl rfl fun woutright_go_73 hS => ?_
          refine gl_op rfl rfl rfl (op_pure hT rfl) ?_
          refine gl_op rfl rfl rfl (op_pure hT rfl) ?_
          refine gl_nil ?_
          intro a ha
          have hS0 := hS.nil 5 1
          first
            | (rw [show readsV (k % 4) l at_ = ({ th0 (k % 4) with n := (readUV l at_).1 }, (readUV l at_).2.1, (readUV l at_).2.2) by unfold readsV; rw [if_pos (by omega)]]; exact ⟨none, 0, ha.sub ⟨rfl, rfl, rfl, rfl, trivial⟩, hS0⟩)
            | (rw [show readsV (k % 4) l at_ = ({ th0 (k % 4) with u := (readFloatV l at_).1 }, (readFloatV l at_).2.1, (readFloatV l at_).2.2) by unfold readsV; rw [if_neg (by omega), if_pos (by omega)]]; exact ⟨none, 0, ha.sub ⟨rfl, rfl, rfl, rfl, trivial⟩, hS0⟩)
            | (rw [show readsV (k % 4) l at_ = ({ th0 (k % 4) with s := (readTextV l at_ 1048576).1 }, (readTextV l at_ 1048576).2.1, (readTextV l at_ 1048576).2.2) by unfold readsV; rw [if_neg (by omega), if_neg (by omega), if_pos (by omega)]]; exact ⟨none, 0, ha.sub ⟨rfl, rfl, rfl, rfl, trivial⟩, hS0⟩)
            | (rw [show readsV (k % 4) l at_ = ({ th0 (k % 4) with b := (readFrameV l at_).1 }, (readFrameV l at_).2.1, (readFrameV l at_).2.2) by unfold readsV; rw [if_neg (by omega), if_neg (by omega), if_neg (by omega)]]; exact ⟨A21, c21, ha.sub ⟨rfl, rfl, rfl, rfl, trivial⟩, hS⟩)
  rintro a w1 ⟨A', c', hF, hS⟩
  refine gc_of hF ?_
  clear hF
  generalize readsV (k % 4) l at_ = X at hS ⊢
  refine gc_seq fun K11 hK11 => ?_
  refine gc_region ?_
  refine gl_op rfl rfl rfl (op_loadG 1 Tryd.underlying85 rfl el85 hS rfl rfl rfl rfl rfl) ?_
  refine gl_op rfl rfl rfl (op_pure hT rfl) ?_
  refine gl_op rfl rfl rfl (op_pure hT rfl) ?_
  refine gl_storeM 0 hS el85 rfl rfl rfl rfl rfl rfl rfl rfl rfl fun woutright_go_75 hS => ?_
  refine gl_op rfl rfl rfl (op_pure hT rfl) ?_
  refine gl_op rfl rfl rfl (op_pure hT rfl) ?_
  refine gl_nil ?_
  refine hK11 _ _ ?_
  clear hK11; try clear K11
  refine gc_ret ?_
  try simp only [x_then_ret, x_block_ret]
  refine gk_res3 rfl (⟨_, rfl, run_loadVarB 0 Tryd.underlying85 rfl el85 hS rfl rfl rfl⟩) (rfl) (rfl) ?_
  exact ⟨A', c', rfl, (hS.out (i := 2) rfl).1, hS.below⟩
theorem alike_calls (t1 t2 : Th) (A1 A2 : Option Addr) (c1 c2 : Nat) (w : World) (hk : -9223372036854775808 ≤ t1.k ∧ t1.k ≤ 9223372036854775807) {ok1 ok2 : Nat → Prop} (h1 : RdE w ok1 uB A1 t1.b) (h2 : RdE w ok2 uB A2 t2.b) (hb : t1.b.length ≤ 9223372036854775807) :
    Calls Tryd.prog 50 ⟨[thV t1 A1 c1, thV t2 A2 c2]⟩ w fun e w' => e = .returned (.bool (alikeV (t1.k % 4) t1 t2)) ∧ Below w.heap.size w w' := by
  obtain ⟨k, n, u, s, b⟩ := t1
  obtain ⟨k2, n2, u2, s2, b2⟩ := t2
  simp only at hk hb h1 h2
  show Calls _ _ ⟨[Value.agg ⟨[Value.int .i64 k, .int .i64 n, .int .u64 (u : Nat), .string s, .slice A1 b.length c1]⟩, Value.agg ⟨[Value.int .i64 k2, .int .i64 n2, .int .u64 (u2 : Nat), .string s2, .slice A2 b2.length c2]⟩]⟩ w fun e w' => e = .returned (.bool (alikeV (k % 4) ⟨k, n, u, s, b⟩ ⟨k2, n2, u2, s2, b2⟩)) ∧ Below w.heap.size w w'
  refine gc_enter (N := 34) Tryd.func50 rfl rfl rfl [(0, _), (1, _)] rfl ?_
  have hS := St.start w
  refine gc_seq fun K1 hK1 => ?_
  refine gc_region ?_
  refine gl_box hS rfl rfl rfl rfl rfl fun g2 w2 hS => ?_
  refine gl_box hS rfl rfl rfl rfl rfl fun g3 w3 hS => ?_
  refine gl_op rfl rfl rfl (op_pure hT rfl) ?_
  refine gl_nil ?_
  refine hK1 _ _ ?_
  clear hK1; try clear K1
  refine gc_seq fun K2 hK2 => ?_
  refine gc_seq fun K3 hK3 => ?_
  refine gc_region ?_
  refine gl_op rfl rfl rfl (op_fieldB 0 rfl Tryd.underlying85 rfl el3 rfl rfl) ?_
  refine gl_op rfl rfl rfl (op_loadB 0 hT hS rfl rfl rfl rfl rfl rfl) ?_
  refine gl_op rfl rfl rfl (op_pure hT rfl) ?_
  refine gl_spell 7 (v := .int .i64 (k % 4)) rfl (by rw [i64_and3 k hk]) ?_
  refine gl_nil ?_
  refine hK3 _ _ ?_
  clear hK3; try clear K3
  refine gc_block ?_
  refine gc_seq fun K4 hK4 => ?_
  refine gc_region ?_
  refine gl_op rfl rfl rfl (op_pure hT rfl) ?_
  refine gl_op rfl rfl rfl (op_pure hT rfl) ?_
  refine gl_nil ?_
  refine hK4 _ _ ?_
  clear hK4; try clear K4
  refine gc_cond rfl rfl (fun c8 => ?_) (fun c8 => ?_)
  · try simp only [decide_eq_true_eq, decide_eq_false_iff_not, Bool.not_eq_true', Bool.not_eq_false', Int.not_lt, Int.not_le, Nat.not_lt, Nat.not_le, Bool.true_eq, Bool.false_eq, reduceCtorEq] at c8
    refine gc_seq fun K5 hK5 => ?_
    refine gc_region ?_
    refine gl_op rfl rfl rfl (op_fieldB 1 rfl Tryd.underlying85 rfl el3 rfl rfl) ?_
    refine gl_op rfl rfl rfl (op_loadB 0 hT hS rfl rfl rfl rfl rfl rfl) ?_
    refine gl_op rfl rfl rfl (op_fieldB 1 rfl Tryd.underlying85 rfl el3 rfl rfl) ?_
    refine gl_op rfl rfl rfl (op_loadB 1 hT hS rfl rfl rfl rfl rfl rfl) ?_
    refine gl_op rfl rfl rfl (op_pure hT rfl) ?_
    refine gl_op rfl rfl rfl (op_pure hT rfl) ?_
    refine gl_nil ?_
    refine hK5 _ _ ?_
    clear hK5; try clear K5
    refine gc_ret ?_
    try simp only [x_then_ret, x_block_ret]
    refine gk_ret1 rfl rfl ?_
    exact ⟨by unfold alikeV; rw [if_pos (by omega)], hS.below⟩
  · try simp only [decide_eq_true_eq, decide_eq_false_iff_not, Bool.not_eq_true', Bool.not_eq_false', Int.not_lt, Int.not_le, Nat.not_lt, Nat.not_le, Bool.true_eq, Bool.false_eq, reduceCtorEq] at c8
    refine gc_seq fun K6 hK6 => ?_
    refine gc_region ?_
    refine gl_op rfl rfl rfl (op_pure hT rfl) ?_
    refine gl_op rfl rfl rfl (op_pure hT rfl) ?_
    refine gl_nil ?_
    refine hK6 _ _ ?_
    clear hK6; try clear K6
    refine gc_cond rfl rfl (fun c15 => ?_) (fun c15 => ?_)
    · try simp only [decide_eq_true_eq, decide_eq_false_iff_not, Bool.not_eq_true', Bool.not_eq_false', Int.not_lt, Int.not_le, Nat.not_lt, Nat.not_le, Bool.true_eq, Bool.false_eq, reduceCtorEq] at c15
      refine gc_seq fun K7 hK7 => ?_
      refine gc_region ?_
      refine gl_op rfl rfl rfl (op_fieldB 2 rfl Tryd.underlying85 rfl el53 rfl rfl) ?_
      refine gl_op rfl rfl rfl (op_loadB 0 hT hS rfl rfl rfl rfl rfl rfl) ?_
      refine gl_op rfl rfl rfl (op_fieldB 2 rfl Tryd.underlying85 rfl el53 rfl rfl) ?_
      refine gl_op rfl rfl rfl (op_loadB 1 hT hS rfl rfl rfl rfl rfl rfl) ?_
      refine gl_op rfl rfl rfl (op_pure hT rfl) ?_
      refine gl_op rfl rfl rfl (op_pure hT rfl) ?_
      refine gl_nil ?_
      refine hK7 _ _ ?_
      clear hK7; try clear K7
      refine gc_ret ?_
      try simp only [x_then_ret, x_block_ret]
      refine gk_ret1 rfl rfl ?_
      exact ⟨by unfold alikeV; rw [if_neg (by omega), if_pos (by omega)]; simp only [Int.natCast_inj], hS.below⟩
    · try simp only [decide_eq_true_eq, decide_eq_false_iff_not, Bool.not_eq_true', Bool.not_eq_false', Int.not_lt, Int.not_le, Nat.not_lt, Nat.not_le, Bool.true_eq, Bool.false_eq, reduceCtorEq] at c15
      refine gc_seq fun K8 hK8 => ?_
      refine gc_region ?_
      refine gl_op rfl rfl rfl (op_pure hT rfl) ?_
      refine gl_op rfl rfl rfl (op_pure hT rfl) ?_
      refine gl_nil ?_
      refine hK8 _ _ ?_
      clear hK8; try clear K8
      refine gc_cond rfl rfl (fun c22 => ?_) (fun c22 => ?_)
      · try simp only [decide_eq_true_eq, decide_eq_false_iff_not, Bool.not_eq_true', Bool.not_eq_false', Int.not_lt, Int.not_le, Nat.not_lt, Nat.not_le, Bool.true_eq, Bool.false_eq, reduceCtorEq] at c22
        refine gc_seq fun K9 hK9 => ?_
        refine gc_region ?_
        refine gl_op rfl rfl rfl (op_fieldB 3 rfl Tryd.underlying85 rfl el9 rfl rfl) ?_
        refine gl_op rfl rfl rfl (op_loadB 0 hT hS rfl rfl rfl rfl rfl rfl) ?_
        refine gl_op rfl rfl rfl (op_fieldB 3 rfl Tryd.underlying85 rfl el9 rfl rfl) ?_
        refine gl_op rfl rfl rfl (op_loadB 1 hT hS rfl rfl rfl rfl rfl rfl) ?_
        refine gl_op rfl rfl rfl (op_pure hT rfl) ?_
        refine gl_op rfl rfl rfl (op_pure hT rfl) ?_
        refine gl_nil ?_
        refine hK9 _ _ ?_
        clear hK9; try clear K9
        refine gc_ret ?_
        try simp only [x_then_ret, x_block_ret]
        refine gk_ret1 rfl rfl ?_
        exact ⟨by unfold alikeV; rw [if_neg (by omega), if_neg (by omega), if_pos (by omega)], hS.below⟩
      · try simp only [decide_eq_true_eq, decide_eq_false_iff_not, Bool.not_eq_true', Bool.not_eq_false', Int.not_lt, Int.not_le, Nat.not_lt, Nat.not_le, Bool.true_eq, Bool.false_eq, reduceCtorEq] at c22
        refine gc_skip ?_
        refine hK2 _ _ ?_
        clear hK2; try clear K2
        refine gc_seq fun K10 hK10 => ?_
        refine gc_region ?_
        refine gl_op rfl rfl rfl (op_fieldB 4 rfl Tryd.underlying85 rfl el22 rfl rfl) ?_
        refine gl_op rfl rfl rfl (op_loadB 0 hT hS rfl rfl rfl rfl rfl rfl) ?_
        refine gl_op rfl rfl rfl (op_fieldB 4 rfl Tryd.underlying85 rfl el22 rfl rfl) ?_
        refine gl_op rfl rfl rfl (op_loadB 1 hT hS rfl rfl rfl rfl rfl rfl) ?_
        refine gl_callf rfl rfl rfl rfl Tryd.func18 rfl rfl rfl (Same_calls A1 A2 c1 c2 b b2 _ (h1.old hS) (h2.old hS) hb) ?_
        rintro _ _ ⟨rfl, n33, rfl⟩
        refine ⟨_, rfl, ?_⟩
        have hS := hS.dr n33
        refine gl_op rfl rfl rfl (op_pure hT rfl) ?_
        refine gl_nil ?_
        refine hK10 _ _ ?_
        clear hK10; try clear K10
        refine gc_ret ?_
        try simp only [x_then_ret, x_block_ret]
        refine gk_ret1 rfl rfl ?_
        exact ⟨by unfold alikeV; rw [if_neg (by omega), if_neg (by omega), if_neg (by omega)], hS.below⟩
end Go.Proofs.YtpeomdobcobdiaaDoor
