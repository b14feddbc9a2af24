/- Contracts of the document's own bounds and fields. No condition. -/
import Derived.Test.YtkfhablonnjgeaaRf3
namespace Go.Proofs.Ytkfhablonnjgeaa
open Go.RowKit
set_option linter.unusedVariables false
set_option linter.unusedSimpArgs false
@[reducible] def iv (x : Int) : Value := .int .i64 x
/-- The bounds while the windows' are laid: of the first i. -/
def bwin (a b : Int) (i : Nat) (p q : Int) : List Value := [iv a, iv b, iv (if 1 < i then 1 else 0), iv (if 1 < i then 16 else 0), iv (if 2 < i then 1 else 0), iv (if 2 < i then 16 else 0), iv (if 3 < i then 1 else 0), iv (if 3 < i then 16 else 0), iv (if 4 < i then 1 else 0), iv (if 4 < i then 16 else 0), iv 0, iv p, iv 0, iv q, iv 0, iv 0]
theorem bwin_step (a b : Int) (i : Nat) (h : 1 ≤ i ∧ i ≤ 4) : spliceL (bwin a b i 0 0) (i * 2) [iv 1, iv 16] = bwin a b (i + 1) 0 0 := by
  match i, h with
  | 1, _ => rfl
  | 2, _ => rfl
  | 3, _ => rfl
  | 4, _ => rfl
/-- The bounds ahead of the windows'. -/
def bnd0 (k : Int) : List Value :=
  if k = 1 ∨ k = 2 then bwin 1 256 0 0 0 else if k = 6 then bwin 1 128 0 0 0 else if k = 5 then [iv 0, iv 0, iv 0, iv 0, iv 0, iv 0, iv 0, iv 0, iv 0, iv 0, iv 0, iv 0, iv 0, iv 0, iv 0, iv 64] else bwin 0 0 0 0 0
set_option maxRecDepth 100000 in
theorem fBounds_calls (L : Ly) (w : World) (hkh : i64 L.kh) (hkw : i64 L.kw) : Calls Try.prog 51 ⟨[.agg ⟨rlC L⟩]⟩ w fun e w' => e = .returned (.agg ⟨bndC L.k L.kh L.kw⟩) ∧ Below w.heap.size w w' := by
  refine gc_enter (N := 41) Try.func51 rfl rfl rfl [(0, _)] rfl ?_
  have hS := St.start w
  refine gc_seq fun K1 hK1 => ?_
  refine gc_region ?_
  refine gl_box hS rfl rfl rfl rfl rfl fun g1 w1 hS => ?_
  refine gl_alloc el103 hS rfl rfl rfl rfl fun g2 w2 hS => ?_
  refine gl_nil ?_
  refine hK1 _ _ ?_
  clear hK1; try clear K1
  refine gc_seq fun K2 hK2 => ?_
  refine gc_region ?_
  refine gl_alloc el103 hS rfl rfl rfl rfl fun g3 w3 hS => ?_
  refine gl_nil ?_
  refine hK2 _ _ ?_
  clear hK2; try clear K2
  refine gc_cut (fun a w' => Fr 41 a [(1, .pointer (some ⟨g1, 0, none⟩)), (2, .pointer (some ⟨g2, 0, none⟩)), (3, .pointer (some ⟨g3, 0, none⟩))] ∧ St w.heap.size w w' [.blk g1 60 (rlC L), .blk g2 103 (bwin 0 0 0 0 0), .blk g3 103 (bnd0 L.k)]) ?_ ?_
  · skip
    refine gc_seq fun K3 hK3 => ?_
    refine gc_region ?_
    refine gl_op rfl rfl rfl (op_fieldB 0 rfl Try.underlying60 rfl el3 rfl rfl) ?_
    refine gl_op rfl rfl rfl (op_loadB 0 hT hS rfl rfl rfl rfl rfl rfl) ?_
    refine gl_nil ?_
    refine hK3 _ _ ?_
    clear hK3; try clear K3
    refine gc_block ?_
    refine gc_seq fun K4 hK4 => ?_
    refine gc_seq fun K5 hK5 => ?_
    refine gc_region ?_
    refine gl_op rfl rfl rfl (op_pure hT rfl) ?_
    refine gl_op rfl rfl rfl (op_pure hT rfl) ?_
    refine gl_nil ?_
    refine hK5 _ _ ?_
    clear hK5; try clear K5
    refine gc_cond rfl rfl (fun c7 => ?_) (fun c7 => ?_)
    · try simp only [decide_eq_true_eq, decide_eq_false_iff_not, Bool.not_eq_true', Bool.not_eq_false', Int.not_lt, Int.not_le, Nat.not_lt, Nat.not_le, Bool.true_eq, Bool.false_eq, reduceCtorEq] at c7
      refine gc_skip ?_
      refine hK4 _ _ ?_
      clear hK4; try clear K4
      refine gc_cond_t rfl ?_
      refine gc_region ?_
      refine gl_op rfl rfl rfl (op_buildG rfl plan102 rfl rfl) ?_
      refine gl_op rfl rfl rfl (op_ixA (j := 0) rfl Try.underlying103 el102 rfl rfl (by decide) (by decide) rfl) ?_
      refine gl_storeM 2 hS el102 rfl rfl rfl rfl rfl rfl rfl rfl rfl fun wambitref6_go_92 hS => ?_
      refine gl_nil ?_
      intro a ha
      refine ⟨ha.sub ⟨rfl, rfl, rfl, trivial⟩, ?_⟩
      unfold bnd0
      first
        | (rw [if_pos (by omega)]; exact hS)
        | (rw [if_neg (by omega), if_pos (by omega)]; exact hS)
        | (rw [if_neg (by omega), if_neg (by omega), if_pos (by omega)]; exact hS)
        | (rw [if_neg (by omega), if_neg (by omega), if_neg (by omega)]; exact hS)
        | trace_state
    · try simp only [decide_eq_true_eq, decide_eq_false_iff_not, Bool.not_eq_true', Bool.not_eq_false', Int.not_lt, Int.not_le, Nat.not_lt, Nat.not_le, Bool.true_eq, Bool.false_eq, reduceCtorEq] at c7
      refine gc_region ?_
      refine gl_op rfl rfl rfl (op_pure hT rfl) ?_
      refine gl_op rfl rfl rfl (op_pure hT rfl) ?_
      refine gl_nil ?_
      refine hK4 _ _ ?_
      clear hK4; try clear K4
      refine gc_cond rfl rfl (fun c7 => ?_) (fun c7 => ?_)
      · try simp only [decide_eq_true_eq, decide_eq_false_iff_not, Bool.not_eq_true', Bool.not_eq_false', Int.not_lt, Int.not_le, Nat.not_lt, Nat.not_le, Bool.true_eq, Bool.false_eq, reduceCtorEq] at c7
        refine gc_region ?_
        refine gl_op rfl rfl rfl (op_buildG rfl plan102 rfl rfl) ?_
        refine gl_op rfl rfl rfl (op_ixA (j := 0) rfl Try.underlying103 el102 rfl rfl (by decide) (by decide) rfl) ?_
        refine gl_storeM 2 hS el102 rfl rfl rfl rfl rfl rfl rfl rfl rfl fun wambitref6_go_92 hS => ?_
        refine gl_nil ?_
        intro a ha
        refine ⟨ha.sub ⟨rfl, rfl, rfl, trivial⟩, ?_⟩
        unfold bnd0
        first
          | (rw [if_pos (by omega)]; exact hS)
          | (rw [if_neg (by omega), if_pos (by omega)]; exact hS)
          | (rw [if_neg (by omega), if_neg (by omega), if_pos (by omega)]; exact hS)
          | (rw [if_neg (by omega), if_neg (by omega), if_neg (by omega)]; exact hS)
          | trace_state
      · try simp only [decide_eq_true_eq, decide_eq_false_iff_not, Bool.not_eq_true', Bool.not_eq_false', Int.not_lt, Int.not_le, Nat.not_lt, Nat.not_le, Bool.true_eq, Bool.false_eq, reduceCtorEq] at c7
        refine gc_seq fun K6 hK6 => ?_
        refine gc_region ?_
        refine gl_op rfl rfl rfl (op_pure hT rfl) ?_
        refine gl_op rfl rfl rfl (op_pure hT rfl) ?_
        refine gl_nil ?_
        refine hK6 _ _ ?_
        clear hK6; try clear K6
        refine gc_cond rfl rfl (fun c12 => ?_) (fun c12 => ?_)
        · try simp only [decide_eq_true_eq, decide_eq_false_iff_not, Bool.not_eq_true', Bool.not_eq_false', Int.not_lt, Int.not_le, Nat.not_lt, Nat.not_le, Bool.true_eq, Bool.false_eq, reduceCtorEq] at c12
          refine gc_region ?_
          refine gl_op rfl rfl rfl (op_buildG rfl plan102 rfl rfl) ?_
          refine gl_op rfl rfl rfl (op_ixA (j := 0) rfl Try.underlying103 el102 rfl rfl (by decide) (by decide) rfl) ?_
          refine gl_storeM 2 hS el102 rfl rfl rfl rfl rfl rfl rfl rfl rfl fun wambitref6_go_94 hS => ?_
          refine gl_nil ?_
          intro a ha
          refine ⟨ha.sub ⟨rfl, rfl, rfl, trivial⟩, ?_⟩
          unfold bnd0
          first
            | (rw [if_pos (by omega)]; exact hS)
            | (rw [if_neg (by omega), if_pos (by omega)]; exact hS)
            | (rw [if_neg (by omega), if_neg (by omega), if_pos (by omega)]; exact hS)
            | (rw [if_neg (by omega), if_neg (by omega), if_neg (by omega)]; exact hS)
            | trace_state
        · try simp only [decide_eq_true_eq, decide_eq_false_iff_not, Bool.not_eq_true', Bool.not_eq_false', Int.not_lt, Int.not_le, Nat.not_lt, Nat.not_le, Bool.true_eq, Bool.false_eq, reduceCtorEq] at c12
          refine gc_seq fun K7 hK7 => ?_
          refine gc_region ?_
          refine gl_op rfl rfl rfl (op_pure hT rfl) ?_
          refine gl_op rfl rfl rfl (op_pure hT rfl) ?_
          refine gl_nil ?_
          refine hK7 _ _ ?_
          clear hK7; try clear K7
          refine gc_cond rfl rfl (fun c16 => ?_) (fun c16 => ?_)
          · try simp only [decide_eq_true_eq, decide_eq_false_iff_not, Bool.not_eq_true', Bool.not_eq_false', Int.not_lt, Int.not_le, Nat.not_lt, Nat.not_le, Bool.true_eq, Bool.false_eq, reduceCtorEq] at c16
            refine gc_region ?_
            refine gl_op rfl rfl rfl (op_buildG rfl plan102 rfl rfl) ?_
            refine gl_op rfl rfl rfl (op_ixA (j := 14) rfl Try.underlying103 el102 rfl rfl (by decide) (by decide) rfl) ?_
            refine gl_storeM 2 hS el102 rfl rfl rfl rfl rfl rfl rfl rfl rfl fun wambitref6_go_96 hS => ?_
            refine gl_nil ?_
            intro a ha
            refine ⟨ha.sub ⟨rfl, rfl, rfl, trivial⟩, ?_⟩
            unfold bnd0
            first
              | (rw [if_pos (by omega)]; exact hS)
              | (rw [if_neg (by omega), if_pos (by omega)]; exact hS)
              | (rw [if_neg (by omega), if_neg (by omega), if_pos (by omega)]; exact hS)
              | (rw [if_neg (by omega), if_neg (by omega), if_neg (by omega)]; exact hS)
              | trace_state
          · try simp only [decide_eq_true_eq, decide_eq_false_iff_not, Bool.not_eq_true', Bool.not_eq_false', Int.not_lt, Int.not_le, Nat.not_lt, Nat.not_le, Bool.true_eq, Bool.false_eq, reduceCtorEq] at c16
            refine gc_skip ?_
            intro a ha
            refine ⟨ha.sub ⟨rfl, rfl, rfl, trivial⟩, ?_⟩
            unfold bnd0
            first
              | (rw [if_pos (by omega)]; exact hS)
              | (rw [if_neg (by omega), if_pos (by omega)]; exact hS)
              | (rw [if_neg (by omega), if_neg (by omega), if_pos (by omega)]; exact hS)
              | (rw [if_neg (by omega), if_neg (by omega), if_neg (by omega)]; exact hS)
              | trace_state
  rintro a w1 ⟨hF, hS⟩
  refine gc_of hF ?_
  clear hF
  refine gc_seq fun K8 hK8 => ?_
  refine gc_seq fun K9 hK9 => ?_
  refine gc_region ?_
  refine gl_op rfl rfl rfl (op_fieldB 0 rfl Try.underlying60 rfl el3 rfl rfl) ?_
  refine gl_op rfl rfl rfl (op_loadB 0 hT hS rfl rfl rfl rfl rfl rfl) ?_
  refine gl_callf rfl rfl rfl rfl Try.func53 rfl rfl rfl (fWindows_calls L.k _) ?_
  rintro _ _ ⟨rfl, n22, rfl⟩
  refine ⟨_, rfl, ?_⟩
  have hS := hS.dr n22
  refine gl_nil ?_
  refine hK9 _ _ ?_
  clear hK9; try clear K9
  refine gc_cond rfl rfl (fun c22 => ?_) (fun c22 => ?_)
  · try simp only [decide_eq_true_eq, decide_eq_false_iff_not, Bool.not_eq_true', Bool.not_eq_false', Int.not_lt, Int.not_le, Nat.not_lt, Nat.not_le, Bool.true_eq, Bool.false_eq, reduceCtorEq] at c22
    obtain ⟨b0, b1, hb0⟩ : ∃ b0 b1, bnd0 L.k = bwin b0 b1 1 0 0 ∧ bndC L.k L.kh L.kw = bwin b0 b1 5 (IntKind.i64.wrap (L.kh - 1)) (IntKind.i64.wrap (L.kw - 1)) := by
      have hw : L.k = 2 ∨ L.k = 4 ∨ L.k = 12 := c22
      rcases hw with h | h | h
      · exact ⟨1, 256, by rw [h]; rfl, by rw [h]; rfl⟩
      · exact ⟨0, 0, by rw [h]; rfl, by rw [h]; rfl⟩
      · exact ⟨0, 0, by rw [h]; rfl, by rw [h]; rfl⟩
    rw [hb0.1] at hS
    refine gc_seq fun K10 hK10 => ?_
    refine gc_seq fun K11 hK11 => ?_
    refine gc_region ?_
    refine gl_op rfl rfl rfl (op_pure hT rfl) ?_
    refine gl_nil ?_
    refine hK11 _ _ ?_
    clear hK11; try clear K11
    refine gc_block ?_
    refine gc_loop (fun k a w' => ∃ i : Nat, Fr 41 a [(1, .pointer (some ⟨g1, 0, none⟩)), (2, .pointer (some ⟨g2, 0, none⟩)), (3, .pointer (some ⟨g3, 0, none⟩)), (4, .int .i64 (i : Nat))] ∧ (1 ≤ i ∧ i ≤ 5) ∧ k = 6 - i ∧ St w.heap.size w w' [.blk g1 60 (rlC L), .blk g2 103 (bwin 0 0 0 0 0), .blk g3 103 (bwin b0 b1 i 0 0)]) 5 ?_ ?_ ?_
    · intro a ha; exact ⟨1, ha.sub ⟨rfl, rfl, rfl, rfl, trivial⟩, by omega, by omega, hS⟩
    · rintro a w ⟨i, _, h1, h2, _⟩; omega
    rintro k a w1 ⟨i, hF, hi, hk, hS⟩
    refine gc_of hF ?_
    clear hF
    refine gc_seq fun K12 hK12 => ?_
    refine gc_seq fun K13 hK13 => ?_
    refine gc_region ?_
    refine gl_op rfl rfl rfl (op_pure hT rfl) ?_
    refine gl_op rfl rfl rfl (op_pure hT rfl) ?_
    refine gl_nil ?_
    refine hK13 _ _ ?_
    clear hK13; try clear K13
    refine gc_cond rfl rfl (fun c24 => ?_) (fun c24 => ?_)
    · try simp only [decide_eq_true_eq, decide_eq_false_iff_not, Bool.not_eq_true', Bool.not_eq_false', Int.not_lt, Int.not_le, Nat.not_lt, Nat.not_le, Bool.true_eq, Bool.false_eq, reduceCtorEq] at c24
      refine gc_skip ?_
      refine hK12 _ _ ?_
      clear hK12; try clear K12
      refine gc_seq fun K14 hK14 => ?_
      refine gc_block ?_
      refine gc_region ?_
      refine gl_op rfl rfl rfl (op_pure hT rfl) ?_
      refine gl_op rfl rfl rfl (op_buildG rfl plan102 rfl rfl) ?_
      refine gl_op rfl rfl rfl (op_ixA (j := i * 2) rfl Try.underlying103 el102 rfl rfl (by omega) (by omega) (by rw [Int.toNat_natCast]; omega)) ?_
      refine gl_storeM 2 hS el102 rfl rfl rfl rfl rfl rfl rfl (Nat.ble_eq_true_of_le (by show i * 2 + 2 ≤ 16; omega)) rfl fun w29 hS => ?_
      have hS : St w.heap.size w _ [.blk g1 60 (rlC L), .blk g2 103 (bwin 0 0 0 0 0), .blk g3 103 (spliceL (bwin b0 b1 i 0 0) (i * 2) [iv 1, iv 16])] := hS
      rw [bwin_step b0 b1 i (by omega)] at hS
      refine gl_nil ?_
      refine hK14 _ _ ?_
      clear hK14; try clear K14
      refine gc_region ?_
      refine gl_op rfl rfl rfl (op_pure hT rfl) ?_
      first | refine gl_fit hT rfl rfl rfl rfl (by omega) ?_ | refine gl_op rfl rfl rfl (op_pure hT rfl) ?_
      refine gl_op rfl rfl rfl (op_pure hT rfl) ?_
      refine gl_nil ?_
      intro a ha
      exact ⟨i + 1, ha.sub ⟨rfl, rfl, rfl, rfl, trivial⟩, by omega, by omega, hS⟩
    · try simp only [decide_eq_true_eq, decide_eq_false_iff_not, Bool.not_eq_true', Bool.not_eq_false', Int.not_lt, Int.not_le, Nat.not_lt, Nat.not_le, Bool.true_eq, Bool.false_eq, reduceCtorEq] at c24
      have hi5 : i = 5 := by omega
      subst hi5
      refine gc_exit ?_
      refine hK10 _ _ ?_
      clear hK10; try clear K10
      refine gc_seq fun K15 hK15 => ?_
      refine gc_region ?_
      refine gl_op rfl rfl rfl (op_fieldB 2 rfl Try.underlying60 rfl el3 rfl rfl) ?_
      refine gl_op rfl rfl rfl (op_loadB 0 hT hS rfl rfl rfl rfl rfl rfl) ?_
      first | refine gl_fit hT rfl rfl rfl rfl (by omega) ?_ | refine gl_op rfl rfl rfl (op_pure hT rfl) ?_
      refine gl_op rfl rfl rfl (op_buildG rfl plan102 rfl rfl) ?_
      refine gl_op rfl rfl rfl (op_ixA (j := 10) rfl Try.underlying103 el102 rfl rfl (by decide) (by decide) rfl) ?_
      refine gl_storeM 2 hS el102 rfl rfl rfl rfl rfl rfl rfl rfl rfl fun wambitref6_go_102 hS => ?_
      refine gl_nil ?_
      refine hK15 _ _ ?_
      clear hK15; try clear K15
      refine gc_region ?_
      refine gl_op rfl rfl rfl (op_fieldB 3 rfl Try.underlying60 rfl el3 rfl rfl) ?_
      refine gl_op rfl rfl rfl (op_loadB 0 hT hS rfl rfl rfl rfl rfl rfl) ?_
      first | refine gl_fit hT rfl rfl rfl rfl (by omega) ?_ | refine gl_op rfl rfl rfl (op_pure hT rfl) ?_
      refine gl_op rfl rfl rfl (op_buildG rfl plan102 rfl rfl) ?_
      refine gl_op rfl rfl rfl (op_ixA (j := 12) rfl Try.underlying103 el102 rfl rfl (by decide) (by decide) rfl) ?_
      refine gl_storeM 2 hS el102 rfl rfl rfl rfl rfl rfl rfl rfl rfl fun wambitref6_go_103 hS => ?_
      refine gl_nil ?_
      refine hK8 _ _ ?_
      clear hK8; try clear K8
      refine gc_seq fun K16 hK16 => ?_
      refine gc_region ?_
      refine gl_op rfl rfl rfl (op_loadG 2 Try.underlying103 rfl el103 hS rfl rfl rfl rfl rfl) ?_
      refine gl_storeM 1 hS el103 rfl rfl rfl rfl rfl rfl rfl rfl rfl fun wambitref6_go_105 hS => ?_
      refine gl_nil ?_
      refine hK16 _ _ ?_
      clear hK16; try clear K16
      refine gc_ret ?_
      try simp only [x_then_ret, x_block_ret]
      refine gk_res1 rfl (⟨_, rfl, run_loadVarB 1 Try.underlying103 rfl el103 hS rfl rfl rfl⟩) ?_
      refine ⟨?_, hS.below⟩
      first
        | (rw [hb0.2]; rfl)
        | trace_state
  · try simp only [decide_eq_true_eq, decide_eq_false_iff_not, Bool.not_eq_true', Bool.not_eq_false', Int.not_lt, Int.not_le, Nat.not_lt, Nat.not_le, Bool.true_eq, Bool.false_eq, reduceCtorEq] at c22
    obtain ⟨x0, x1, x2, x3, x4, x5, x6, x7, x8, x9, x10, x11, x12, x13, x14, x15, hb0⟩ : ∃ x0 x1 x2 x3 x4 x5 x6 x7 x8 x9 x10 x11 x12 x13 x14 x15 : Int, bnd0 L.k = [iv x0, iv x1, iv x2, iv x3, iv x4, iv x5, iv x6, iv x7, iv x8, iv x9, iv x10, iv x11, iv x12, iv x13, iv x14, iv x15] ∧ bndC L.k L.kh L.kw = [iv x0, iv x1, iv x2, iv x3, iv x4, iv x5, iv x6, iv x7, iv x8, iv x9, iv x10, iv x11, iv x12, iv x13, iv x14, iv x15] := by
      have hw : ¬ (L.k = 2 ∨ L.k = 4 ∨ L.k = 12) := c22
      by_cases h1 : L.k = 1
      · exact ⟨1, 256, 0, 0, 0, 0, 0, 0, 0, 0, 0, 0, 0, 0, 0, 0,  by unfold bnd0; rw [if_pos (.inl h1)] <;> rfl, by unfold bndC; rw [if_pos h1] <;> rfl⟩
      by_cases h6 : L.k = 6
      · exact ⟨1, 128, 0, 0, 0, 0, 0, 0, 0, 0, 0, 0, 0, 0, 0, 0,  by unfold bnd0; rw [if_neg (by omega), if_pos h6] <;> rfl, by unfold bndC; rw [if_neg h1, if_pos h6] <;> rfl⟩
      by_cases h5 : L.k = 5
      · exact ⟨0, 0, 0, 0, 0, 0, 0, 0, 0, 0, 0, 0, 0, 0, 0, 64,  by unfold bnd0; rw [if_neg (by omega), if_neg h6, if_pos h5] <;> rfl, by unfold bndC; rw [if_neg h1, if_neg h6, if_pos h5] <;> rfl⟩
      exact ⟨0, 0, 0, 0, 0, 0, 0, 0, 0, 0, 0, 0, 0, 0, 0, 0, by unfold bnd0; rw [if_neg (by omega), if_neg h6, if_neg h5] <;> rfl, by unfold bndC; rw [if_neg h1, if_neg h6, if_neg h5, if_neg (by omega), if_neg (by omega)] <;> rfl⟩
    rw [hb0.1] at hS
    refine gc_skip ?_
    refine hK8 _ _ ?_
    clear hK8; try clear K8
    refine gc_seq fun K17 hK17 => ?_
    refine gc_region ?_
    refine gl_op rfl rfl rfl (op_loadG 2 Try.underlying103 rfl el103 hS rfl rfl rfl rfl rfl) ?_
    refine gl_storeM 1 hS el103 rfl rfl rfl rfl rfl rfl rfl rfl rfl fun wambitref6_go_105 hS => ?_
    refine gl_nil ?_
    refine hK17 _ _ ?_
    clear hK17; try clear K17
    refine gc_ret ?_
    try simp only [x_then_ret, x_block_ret]
    refine gk_res1 rfl (⟨_, rfl, run_loadVarB 1 Try.underlying103 rfl el103 hS rfl rfl rfl⟩) ?_
    refine ⟨?_, hS.below⟩
    first
      | (rw [hb0.2]; rfl)
      | trace_state
end Go.Proofs.Ytkfhablonnjgeaa
