/- Contracts of the document's own Out and Lists. No condition. -/
import Derived.Test.YtkfhablonnjgeaaRf5
namespace Go.Proofs.Ytkfhablonnjgeaa
open Go.RowKit
set_option linter.unusedVariables false
set_option linter.unusedSimpArgs false
theorem outS_ok {L : Ly} {s : Sh} (hs : s.ok) (hgs : (1 ≤ s.c ∧ s.c ≤ 256) ∧ (1 ≤ s.h ∧ s.h ≤ 256) ∧ (1 ≤ s.w ∧ s.w ≤ 256) ∧ 1 ≤ s.c * s.h * s.w ∧ s.c * s.h * s.w ≤ 256) (hfo : fldOk L) : (outS L s).ok := by
  have hhc := hs.c
  have hout := fld_out hfo
  have hdiv : ∀ x y : Int, winV L.k → 1 ≤ y → -1000 ≤ x → x ≤ 1000 → -1001 ≤ x / y ∧ x / y ≤ 1000 := fun x y _ h1 h2 h3 => by
    have e1 := Int.ediv_mul_le x (show y ≠ 0 by omega)
    have e2 := Int.lt_ediv_add_one_mul_self x (show (0 : Int) < y by omega)
    constructor
    · rcases Int.lt_or_le (x / y) (-1001) with h | h
      · exfalso
        have : (x / y + 1) * y ≤ (x / y + 1) * 1 := Int.mul_le_mul_of_nonpos_left (by omega) (by omega)
        omega
      · exact h
    · rcases Int.lt_or_le 1000 (x / y) with h | h
      · exfalso
        have : (x / y) * 1 ≤ (x / y) * y := Int.mul_le_mul_of_nonneg_left (by omega) (by omega)
        omega
      · exact h
  unfold outS
  split
  · exact ⟨by constructor <;> simp only <;> omega, by constructor <;> simp only <;> omega, by constructor <;> simp only <;> omega⟩
  split
  · exact ⟨by constructor <;> simp only <;> omega, by constructor <;> simp only <;> omega, by constructor <;> simp only <;> omega⟩
  split
  · rename_i hw
    have hwn := fld_win hfo hw
    have d1 := hdiv (s.h + 2 * L.ph - L.kh) L.sh hw (by omega) (by omega) (by omega)
    have d2 := hdiv (s.w + 2 * L.pw - L.kw) L.sw hw (by omega) (by omega) (by omega)
    refine ⟨?_, by constructor <;> simp only <;> omega, by constructor <;> simp only <;> omega⟩
    simp only
    split
    · constructor <;> omega
    · exact hhc
  · exact hs
set_option maxHeartbeats 2000000 in
set_option maxRecDepth 100000 in
theorem fOut_calls (L : Ly) (s : Sh) (w : World) (hL : L.ok) (hs : s.ok) (h8 : L.k = 8 → L.a = 0) : Calls Try.prog 37 ⟨[.agg ⟨rlC L⟩, .agg ⟨shC s⟩]⟩ w fun e w' => e = .returned (.tuple #[.agg ⟨shC (outV L s).1⟩, .int .i64 (outV L s).2]) ∧ Below w.heap.size w w' := by
  have hhc := hs.c
  have hhh := hs.h
  have hhw := hs.w
  refine gc_enter (N := 102) Try.func37 rfl rfl rfl [(0, _), (1, _)] rfl ?_
  have hS := St.start w
  refine gc_seq fun K1 hK1 => ?_
  refine gc_region ?_
  refine gl_box hS rfl rfl rfl rfl rfl fun g2 w2 hS => ?_
  refine gl_box hS rfl rfl rfl rfl rfl fun g3 w3 hS => ?_
  refine gl_alloc el27 hS rfl rfl rfl rfl fun g4 w4 hS => ?_
  refine gl_op rfl rfl rfl (op_pure hT rfl) ?_
  refine gl_nil ?_
  refine hK1 _ _ ?_
  clear hK1; try clear K1
  refine gc_seq fun K2 hK2 => ?_
  refine gc_region ?_
  refine gl_op rfl rfl rfl (op_loadG 0 Try.underlying60 rfl el60 hS rfl rfl rfl rfl rfl) ?_
  refine gl_callf rfl rfl rfl rfl Try.func46 rfl rfl rfl (fFields_calls L _ hL h8) ?_
  rintro _ w12 ⟨rfl, hb12⟩
  refine ⟨_, rfl, ?_⟩
  have hS := hS.grown hb12
  refine gl_op rfl rfl rfl (op_pure hT rfl) ?_
  refine gl_nil ?_
  refine hK2 _ _ ?_
  clear hK2; try clear K2
  refine gc_seq fun K3 hK3 => ?_
  refine gc_seq fun K4 hK4 => ?_
  refine gc_region ?_
  refine gl_op rfl rfl rfl (op_pure hT rfl) ?_
  refine gl_op rfl rfl rfl (op_pure hT rfl) ?_
  refine gl_nil ?_
  refine hK4 _ _ ?_
  clear hK4; try clear K4
  refine gc_cond rfl rfl (fun c14 => ?_) (fun c14 => ?_)
  · try simp only [decide_eq_true_eq, decide_eq_false_iff_not, Bool.not_eq_true', Bool.not_eq_false', Int.not_lt, Int.not_le, Nat.not_lt, Nat.not_le, Bool.true_eq, Bool.false_eq, reduceCtorEq] at c14
    refine gc_seq fun K5 hK5 => ?_
    refine gc_region ?_
    refine gl_op rfl rfl rfl (op_buildG rfl plan27 rfl rfl) ?_
    refine gl_op rfl rfl rfl (op_pure hT rfl) ?_
    refine gl_storeM 2 hS el27 rfl rfl rfl rfl rfl rfl rfl rfl rfl fun wambitref6_go_146 hS => ?_
    refine gl_op rfl rfl rfl (op_pure hT rfl) ?_
    refine gl_nil ?_
    refine hK5 _ _ ?_
    clear hK5; try clear K5
    refine gc_ret ?_
    try simp only [x_then_ret, x_block_ret]
    refine gk_res2 rfl (⟨_, rfl, run_loadVarB 2 Try.underlying27 rfl el27 hS rfl rfl rfl⟩) (rfl) ?_
    refine ⟨?_, hS.below⟩
    unfold outV
    rw [if_pos c14]
    rfl
  · try simp only [decide_eq_true_eq, decide_eq_false_iff_not, Bool.not_eq_true', Bool.not_eq_false', Int.not_lt, Int.not_le, Nat.not_lt, Nat.not_le, Bool.true_eq, Bool.false_eq, reduceCtorEq] at c14
    obtain ⟨hk1, hk2, hfo⟩ := fv_zero c14
    have hout := fld_out hfo
    refine gc_skip ?_
    refine hK3 _ _ ?_
    clear hK3; try clear K3
    refine gc_seq fun K6 hK6 => ?_
    refine gc_region ?_
    refine gl_op rfl rfl rfl (op_loadG 1 Try.underlying27 rfl el27 hS rfl rfl rfl rfl rfl) ?_
    refine gl_callf rfl rfl rfl rfl Try.func17 rfl rfl rfl (fSize_calls s _ hs) ?_
    rintro _ w19 ⟨rfl, hb19⟩
    refine ⟨_, rfl, ?_⟩
    have hS := hS.grown hb19
    refine gl_op rfl rfl rfl (op_pure hT rfl) ?_
    refine gl_op rfl rfl rfl (op_pure hT rfl) ?_
    refine gl_op rfl rfl rfl (op_pure hT rfl) ?_
    refine gl_op rfl rfl rfl (op_pure hT rfl) ?_
    refine gl_op rfl rfl rfl (op_pure hT rfl) ?_
    refine gl_nil ?_
    refine hK6 _ _ ?_
    clear hK6; try clear K6
    refine gc_seq fun K7 hK7 => ?_
    refine gc_seq fun K8 hK8 => ?_
    refine gc_region ?_
    refine gl_op rfl rfl rfl (op_pure hT rfl) ?_
    refine gl_op rfl rfl rfl (op_pure hT rfl) ?_
    refine gl_nil ?_
    refine hK8 _ _ ?_
    clear hK8; try clear K8
    refine gc_cond rfl rfl (fun c23 => ?_) (fun c23 => ?_)
    · try simp only [decide_eq_true_eq, decide_eq_false_iff_not, Bool.not_eq_true', Bool.not_eq_false', Int.not_lt, Int.not_le, Nat.not_lt, Nat.not_le, Bool.true_eq, Bool.false_eq, reduceCtorEq] at c23
      refine gc_seq fun K9 hK9 => ?_
      refine gc_region ?_
      refine gl_op rfl rfl rfl (op_buildG rfl plan27 rfl rfl) ?_
      refine gl_op rfl rfl rfl (op_pure hT rfl) ?_
      refine gl_storeM 2 hS el27 rfl rfl rfl rfl rfl rfl rfl rfl rfl fun wambitref6_go_150 hS => ?_
      refine gl_op rfl rfl rfl (op_pure hT rfl) ?_
      refine gl_nil ?_
      refine hK9 _ _ ?_
      clear hK9; try clear K9
      refine gc_ret ?_
      try simp only [x_then_ret, x_block_ret]
      refine gk_res2 rfl (⟨_, rfl, run_loadVarB 2 Try.underlying27 rfl el27 hS rfl rfl rfl⟩) (rfl) ?_
      refine ⟨?_, hS.below⟩
      have hb := sizeV_bad c23
      unfold outV
      rw [if_neg (by rw [c14]; simp), if_pos hb.1, hb.2]
      rfl
    · try simp only [decide_eq_true_eq, decide_eq_false_iff_not, Bool.not_eq_true', Bool.not_eq_false', Int.not_lt, Int.not_le, Nat.not_lt, Nat.not_le, Bool.true_eq, Bool.false_eq, reduceCtorEq] at c23
      have hsz := sizeV_ok c23
      have hgs := sz_good hsz.1
      rw [hsz.2]
      refine gc_skip ?_
      refine hK7 _ _ ?_
      clear hK7; try clear K7
      refine gc_seq fun K10 hK10 => ?_
      refine gc_region ?_
      refine gl_op rfl rfl rfl (op_loadG 1 Try.underlying27 rfl el27 hS rfl rfl rfl rfl rfl) ?_
      refine gl_alloc el27 hS rfl rfl rfl rfl fun g8 w8 hS => ?_
      refine gl_storeM 3 hS el27 rfl rfl rfl rfl rfl rfl rfl rfl rfl fun wambitref6_go_152 hS => ?_
      refine gl_nil ?_
      refine hK10 _ _ ?_
      clear hK10; try clear K10
      refine gc_cut (fun a' w' => Fr 102 a' [(4, .pointer (some ⟨g4, 0, none⟩)), (8, .pointer (some ⟨g8, 0, none⟩))] ∧ (¬ (winV L.k ∧ (s.h + 2 * L.ph - L.kh < 0 ∨ s.w + 2 * L.pw - L.kw < 0))) ∧ (¬ (L.k = 6 ∧ (s.c * s.h * s.w) % 2 = 1)) ∧
      St w.heap.size w w' [.blk g2 60 (rlC L), .blk g3 27 (shC s), .blk g4 27 (shC ⟨0, 0, 0⟩), .blk g8 27 (shC (outS L s))]) ?_ ?_
      · skip
        refine gc_seq fun K11 hK11 => ?_
        refine gc_region ?_
        refine gl_op rfl rfl rfl (op_fieldB 0 rfl Try.underlying60 rfl el3 rfl rfl) ?_
        refine gl_op rfl rfl rfl (op_loadB 0 hT hS rfl rfl rfl rfl rfl rfl) ?_
        refine gl_nil ?_
        refine hK11 _ _ ?_
        clear hK11; try clear K11
        refine gc_block ?_
        refine gc_seq fun K12 hK12 => ?_
        refine gc_region ?_
        refine gl_op rfl rfl rfl (op_pure hT rfl) ?_
        refine gl_op rfl rfl rfl (op_pure hT rfl) ?_
        refine gl_nil ?_
        refine hK12 _ _ ?_
        clear hK12; try clear K12
        refine gc_cond rfl rfl (fun c29 => ?_) (fun c29 => ?_)
        · try simp only [decide_eq_true_eq, decide_eq_false_iff_not, Bool.not_eq_true', Bool.not_eq_false', Int.not_lt, Int.not_le, Nat.not_lt, Nat.not_le, Bool.true_eq, Bool.false_eq, reduceCtorEq] at c29
          refine gc_region ?_
          refine gl_op rfl rfl rfl (op_fieldB 1 rfl Try.underlying60 rfl el3 rfl rfl) ?_
          refine gl_op rfl rfl rfl (op_loadB 0 hT hS rfl rfl rfl rfl rfl rfl) ?_
          refine gl_op rfl rfl rfl (op_buildG rfl plan27 rfl rfl) ?_
          refine gl_storeM 3 hS el27 rfl rfl rfl rfl rfl rfl rfl rfl rfl fun wambitref6_go_155 hS => ?_
          refine gl_nil ?_
          intro a' ha
          first
            | (refine ⟨ha.sub ⟨rfl, rfl, trivial⟩, fun h => absurd h.1 (by unfold winV; omega), fun h => absurd h.1 (by omega), ?_⟩
               rw [show outS L s = ⟨L.out, 1, 1⟩ by unfold outS; rw [if_pos (by omega)]]
               exact hS)
            | (refine ⟨ha.sub ⟨rfl, rfl, trivial⟩, fun h => absurd h.1 (by unfold winV; omega), fun h => absurd h.2 (by omega), ?_⟩
               rw [show outS L s = ⟨2 * L.out, 1, 1⟩ by unfold outS; rw [if_neg (by omega), if_pos (by omega)]]
               exact hS)
            | (refine ⟨ha.sub ⟨rfl, rfl, trivial⟩, fun h => absurd h.1 (by unfold winV; omega), fun h => absurd h.1 (by omega), ?_⟩
               rw [show outS L s = s by unfold outS; rw [if_neg (by omega), if_neg (by omega), if_neg (show ¬ winV L.k by unfold winV; omega)]]
               exact hS)
            | (refine ⟨ha.sub ⟨rfl, rfl, trivial⟩, fun h => absurd h.2 (by omega), fun h => absurd h.1 (by omega), ?_⟩
               rw [show outS L s = ⟨L.out, (s.h + 2 * L.ph - L.kh) / L.sh + 1, (s.w + 2 * L.pw - L.kw) / L.sw + 1⟩ by unfold outS; rw [if_neg (by omega), if_neg (by omega), if_pos (show winV L.k by unfold winV; omega), if_pos (by omega)]]
               exact hS)
            | (refine ⟨ha.sub ⟨rfl, rfl, trivial⟩, fun h => absurd h.2 (by omega), fun h => absurd h.1 (by omega), ?_⟩
               rw [show outS L s = ⟨s.c, (s.h + 2 * L.ph - L.kh) / L.sh + 1, (s.w + 2 * L.pw - L.kw) / L.sw + 1⟩ by unfold outS; rw [if_neg (by omega), if_neg (by omega), if_pos (show winV L.k by unfold winV; omega), if_neg (by omega)]]
               exact hS)
            | trace_state
        · try simp only [decide_eq_true_eq, decide_eq_false_iff_not, Bool.not_eq_true', Bool.not_eq_false', Int.not_lt, Int.not_le, Nat.not_lt, Nat.not_le, Bool.true_eq, Bool.false_eq, reduceCtorEq] at c29
          refine gc_seq fun K13 hK13 => ?_
          refine gc_region ?_
          refine gl_op rfl rfl rfl (op_pure hT rfl) ?_
          refine gl_op rfl rfl rfl (op_pure hT rfl) ?_
          refine gl_nil ?_
          refine hK13 _ _ ?_
          clear hK13; try clear K13
          refine gc_cond rfl rfl (fun c34 => ?_) (fun c34 => ?_)
          · try simp only [decide_eq_true_eq, decide_eq_false_iff_not, Bool.not_eq_true', Bool.not_eq_false', Int.not_lt, Int.not_le, Nat.not_lt, Nat.not_le, Bool.true_eq, Bool.false_eq, reduceCtorEq] at c34
            refine gc_seq fun K14 hK14 => ?_
            refine gc_seq fun K15 hK15 => ?_
            refine gc_region ?_
            refine gl_op rfl rfl rfl (op_pure hT rfl) ?_
            refine gl_op rfl rfl rfl (op_rem hT rfl (by omega)) ?_
            refine gl_op rfl rfl rfl (op_pure hT rfl) ?_
            refine gl_nil ?_
            refine hK15 _ _ ?_
            clear hK15; try clear K15
            refine gc_cond rfl rfl (fun c38 => ?_) (fun c38 => ?_)
            · try simp only [decide_eq_true_eq, decide_eq_false_iff_not, Bool.not_eq_true', Bool.not_eq_false', Int.not_lt, Int.not_le, Nat.not_lt, Nat.not_le, Bool.true_eq, Bool.false_eq, reduceCtorEq] at c38
              refine gc_seq fun K16 hK16 => ?_
              refine gc_region ?_
              refine gl_op rfl rfl rfl (op_buildG rfl plan27 rfl rfl) ?_
              refine gl_storeM 2 hS el27 rfl rfl rfl rfl rfl rfl rfl rfl rfl fun wambitref6_go_158 hS => ?_
              refine gl_op rfl rfl rfl (op_pure hT rfl) ?_
              refine gl_nil ?_
              refine hK16 _ _ ?_
              clear hK16; try clear K16
              refine gc_ret ?_
              try simp only [x_then_ret, x_block_ret]
              refine gk_res2 rfl (⟨_, rfl, run_loadVarB 2 Try.underlying27 rfl el27 hS rfl rfl rfl⟩) (rfl) ?_
              refine ⟨?_, hS.below⟩
              first
                | (have hb := sizeV_ok c98
                   unfold outV
                   rw [if_neg (by rw [c14]; simp), if_neg hsz.1, if_neg hnw, if_neg hn6, if_neg hb.1]
                   rfl)
                | (have hb := sizeV_bad c98
                   unfold outV
                   rw [if_neg (by rw [c14]; simp), if_neg hsz.1, if_neg hnw, if_neg hn6, if_pos hb.1, hb.2]
                   rfl)
                | (unfold outV
                   rw [if_neg (by rw [c14]; simp), if_neg hsz.1, if_neg (fun h => absurd h.1 (by unfold winV; omega)), if_pos ⟨by omega, by omega⟩]
                   rfl)
                | (unfold outV
                   rw [if_neg (by rw [c14]; simp), if_neg hsz.1, if_pos ⟨by unfold winV; omega, by omega⟩]
                   rfl)
                | trace_state
            · try simp only [decide_eq_true_eq, decide_eq_false_iff_not, Bool.not_eq_true', Bool.not_eq_false', Int.not_lt, Int.not_le, Nat.not_lt, Nat.not_le, Bool.true_eq, Bool.false_eq, reduceCtorEq] at c38
              refine gc_skip ?_
              refine hK14 _ _ ?_
              clear hK14; try clear K14
              refine gc_region ?_
              refine gl_op rfl rfl rfl (op_fieldB 1 rfl Try.underlying60 rfl el3 rfl rfl) ?_
              refine gl_op rfl rfl rfl (op_loadB 0 hT hS rfl rfl rfl rfl rfl rfl) ?_
              first | refine gl_fit hT rfl rfl rfl rfl (by omega) ?_ | refine gl_op rfl rfl rfl (op_pure hT rfl) ?_
              refine gl_op rfl rfl rfl (op_buildG rfl plan27 rfl rfl) ?_
              refine gl_storeM 3 hS el27 rfl rfl rfl rfl rfl rfl rfl rfl rfl fun wambitref6_go_160 hS => ?_
              refine gl_nil ?_
              intro a' ha
              first
                | (refine ⟨ha.sub ⟨rfl, rfl, trivial⟩, fun h => absurd h.1 (by unfold winV; omega), fun h => absurd h.1 (by omega), ?_⟩
                   rw [show outS L s = ⟨L.out, 1, 1⟩ by unfold outS; rw [if_pos (by omega)]]
                   exact hS)
                | (refine ⟨ha.sub ⟨rfl, rfl, trivial⟩, fun h => absurd h.1 (by unfold winV; omega), fun h => absurd h.2 (by omega), ?_⟩
                   rw [show outS L s = ⟨2 * L.out, 1, 1⟩ by unfold outS; rw [if_neg (by omega), if_pos (by omega)]]
                   exact hS)
                | (refine ⟨ha.sub ⟨rfl, rfl, trivial⟩, fun h => absurd h.1 (by unfold winV; omega), fun h => absurd h.1 (by omega), ?_⟩
                   rw [show outS L s = s by unfold outS; rw [if_neg (by omega), if_neg (by omega), if_neg (show ¬ winV L.k by unfold winV; omega)]]
                   exact hS)
                | (refine ⟨ha.sub ⟨rfl, rfl, trivial⟩, fun h => absurd h.2 (by omega), fun h => absurd h.1 (by omega), ?_⟩
                   rw [show outS L s = ⟨L.out, (s.h + 2 * L.ph - L.kh) / L.sh + 1, (s.w + 2 * L.pw - L.kw) / L.sw + 1⟩ by unfold outS; rw [if_neg (by omega), if_neg (by omega), if_pos (show winV L.k by unfold winV; omega), if_pos (by omega)]]
                   exact hS)
                | (refine ⟨ha.sub ⟨rfl, rfl, trivial⟩, fun h => absurd h.2 (by omega), fun h => absurd h.1 (by omega), ?_⟩
                   rw [show outS L s = ⟨s.c, (s.h + 2 * L.ph - L.kh) / L.sh + 1, (s.w + 2 * L.pw - L.kw) / L.sw + 1⟩ by unfold outS; rw [if_neg (by omega), if_neg (by omega), if_pos (show winV L.k by unfold winV; omega), if_neg (by omega)]]
                   exact hS)
                | trace_state
          · try simp only [decide_eq_true_eq, decide_eq_false_iff_not, Bool.not_eq_true', Bool.not_eq_false', Int.not_lt, Int.not_le, Nat.not_lt, Nat.not_le, Bool.true_eq, Bool.false_eq, reduceCtorEq] at c34
            refine gc_seq fun K17 hK17 => ?_
            refine gc_seq fun K18 hK18 => ?_
            refine gc_region ?_
            refine gl_op rfl rfl rfl (op_pure hT rfl) ?_
            refine gl_op rfl rfl rfl (op_pure hT rfl) ?_
            refine gl_nil ?_
            refine hK18 _ _ ?_
            clear hK18; try clear K18
            refine gc_cond rfl rfl (fun c44 => ?_) (fun c44 => ?_)
            · try simp only [decide_eq_true_eq, decide_eq_false_iff_not, Bool.not_eq_true', Bool.not_eq_false', Int.not_lt, Int.not_le, Nat.not_lt, Nat.not_le, Bool.true_eq, Bool.false_eq, reduceCtorEq] at c44
              refine gc_skip ?_
              refine hK17 _ _ ?_
              clear hK17; try clear K17
              refine gc_cond_t rfl ?_
              refine gc_seq fun K19 hK19 => ?_
              refine gc_anyS hS (by kernel_rfl) rfl fun nq18 hK => ?_
              have hS := hS.dr nq18
              have hwn := fld_win hfo (show winV L.k by unfold winV; omega)
              refine ga_take 0 rfl rfl rfl rfl (by kernel_rfl) (fun _ _ _ _ _ h => h) hK (fun w1 hS => op_fieldB 1 rfl Try.underlying27 rfl el3 rfl rfl) ?_
              refine ga_take 1 rfl rfl rfl rfl (by kernel_rfl) (fun _ _ _ _ _ h => h) hK (fun w1 hS => op_loadB 1 hT hS rfl rfl rfl rfl rfl rfl) ?_
              refine ga_take 2 rfl rfl rfl rfl (by kernel_rfl) (fun _ _ _ _ _ h => h) hK (fun w1 hS => op_fieldB 6 rfl Try.underlying60 rfl el3 rfl rfl) ?_
              refine ga_take 3 rfl rfl rfl rfl (by kernel_rfl) (fun _ _ _ _ _ h => h) hK (fun w1 hS => op_loadB 0 hT hS rfl rfl rfl rfl rfl rfl) ?_
              refine ga_take 4 rfl rfl rfl rfl (by kernel_rfl) (fun _ _ _ _ _ h => h) hK (fun w1 hS => (by first | exact op_fit hT rfl (by omega) | exact op_pure hT rfl)) ?_
              refine ga_take 5 rfl rfl rfl rfl (by kernel_rfl) (fun _ _ _ _ _ h => h) hK (fun w1 hS => (by first | exact op_fit hT rfl (by omega) | exact op_pure hT rfl)) ?_
              refine ga_take 6 rfl rfl rfl rfl (by kernel_rfl) (fun _ _ _ _ _ h => h) hK (fun w1 hS => op_fieldB 2 rfl Try.underlying60 rfl el3 rfl rfl) ?_
              refine ga_take 7 rfl rfl rfl rfl (by kernel_rfl) (fun _ _ _ _ _ h => h) hK (fun w1 hS => op_loadB 0 hT hS rfl rfl rfl rfl rfl rfl) ?_
              refine ga_take 8 rfl rfl rfl rfl (by kernel_rfl) (fun _ _ _ _ _ h => h) hK (fun w1 hS => (by first | exact op_fit hT rfl (by omega) | exact op_pure hT rfl)) ?_
              refine ga_take 9 rfl rfl rfl rfl (by kernel_rfl) (fun _ _ _ _ _ h => h) hK (fun w1 hS => op_fieldB 2 rfl Try.underlying27 rfl el3 rfl rfl) ?_
              refine ga_take 10 rfl rfl rfl rfl (by kernel_rfl) (fun _ _ _ _ _ h => h) hK (fun w1 hS => op_loadB 1 hT hS rfl rfl rfl rfl rfl rfl) ?_
              refine ga_take 11 rfl rfl rfl rfl (by kernel_rfl) (fun _ _ _ _ _ h => h) hK (fun w1 hS => op_fieldB 7 rfl Try.underlying60 rfl el3 rfl rfl) ?_
              refine ga_take 12 rfl rfl rfl rfl (by kernel_rfl) (fun _ _ _ _ _ h => h) hK (fun w1 hS => op_loadB 0 hT hS rfl rfl rfl rfl rfl rfl) ?_
              refine ga_take 13 rfl rfl rfl rfl (by kernel_rfl) (fun _ _ _ _ _ h => h) hK (fun w1 hS => (by first | exact op_fit hT rfl (by omega) | exact op_pure hT rfl)) ?_
              refine ga_take 14 rfl rfl rfl rfl (by kernel_rfl) (fun _ _ _ _ _ h => h) hK (fun w1 hS => (by first | exact op_fit hT rfl (by omega) | exact op_pure hT rfl)) ?_
              refine ga_take 15 rfl rfl rfl rfl (by kernel_rfl) (fun _ _ _ _ _ h => h) hK (fun w1 hS => op_fieldB 3 rfl Try.underlying60 rfl el3 rfl rfl) ?_
              refine ga_take 16 rfl rfl rfl rfl (by kernel_rfl) (fun _ _ _ _ _ h => h) hK (fun w1 hS => op_loadB 0 hT hS rfl rfl rfl rfl rfl rfl) ?_
              refine ga_take 17 rfl rfl rfl rfl (by kernel_rfl) (fun _ _ _ _ _ h => h) hK (fun w1 hS => (by first | exact op_fit hT rfl (by omega) | exact op_pure hT rfl)) ?_
              refine ga_take 18 rfl rfl rfl rfl (by kernel_rfl) (fun _ _ _ _ _ h => h) hK (fun w1 hS => op_pure hT rfl) ?_
              refine ga_take 19 rfl rfl rfl rfl (by kernel_rfl) (fun _ _ _ _ _ h => h) hK (fun w1 hS => op_pure hT rfl) ?_
              refine ga_done (by kernel_rfl) ?_
              refine hK19 _ _ ?_
              clear hK19; try clear K19
              refine gc_seq fun K20 hK20 => ?_
              refine gc_seq fun K21 hK21 => ?_
              refine gc_region ?_
              refine gl_op rfl rfl rfl (op_pure hT rfl) ?_
              refine gl_op rfl rfl rfl (op_pure hT rfl) ?_
              refine gl_op rfl rfl rfl (op_pure hT rfl) ?_
              refine gl_split (t := 68) rfl (fun c68 => ?_) (fun c68 => ?_)
              · try simp only [decide_eq_true_eq, decide_eq_false_iff_not, Bool.not_eq_true', Bool.not_eq_false', Int.not_lt, Int.not_le, Nat.not_lt, Nat.not_le, Bool.true_eq, Bool.false_eq, reduceCtorEq] at c68
                refine gl_pass rfl rfl rfl rfl rfl rfl ?_
                refine gl_pass rfl rfl rfl rfl rfl rfl ?_
                refine gl_op rfl rfl rfl (op_pure hT rfl) ?_
                refine gl_nil ?_
                refine hK21 _ _ ?_
                clear hK21; try clear K21
                refine gc_cond_t rfl ?_
                refine gc_seq fun K22 hK22 => ?_
                refine gc_region ?_
                refine gl_op rfl rfl rfl (op_buildG rfl plan27 rfl rfl) ?_
                refine gl_storeM 2 hS el27 rfl rfl rfl rfl rfl rfl rfl rfl rfl fun wambitref6_go_164 hS => ?_
                refine gl_op rfl rfl rfl (op_pure hT rfl) ?_
                refine gl_nil ?_
                refine hK22 _ _ ?_
                clear hK22; try clear K22
                refine gc_ret ?_
                try simp only [x_then_ret, x_block_ret]
                refine gk_res2 rfl (⟨_, rfl, run_loadVarB 2 Try.underlying27 rfl el27 hS rfl rfl rfl⟩) (rfl) ?_
                refine ⟨?_, hS.below⟩
                first
                  | (have hb := sizeV_ok c98
                     unfold outV
                     rw [if_neg (by rw [c14]; simp), if_neg hsz.1, if_neg hnw, if_neg hn6, if_neg hb.1]
                     rfl)
                  | (have hb := sizeV_bad c98
                     unfold outV
                     rw [if_neg (by rw [c14]; simp), if_neg hsz.1, if_neg hnw, if_neg hn6, if_pos hb.1, hb.2]
                     rfl)
                  | (unfold outV
                     rw [if_neg (by rw [c14]; simp), if_neg hsz.1, if_neg (fun h => absurd h.1 (by unfold winV; omega)), if_pos ⟨by omega, by omega⟩]
                     rfl)
                  | (unfold outV
                     rw [if_neg (by rw [c14]; simp), if_neg hsz.1, if_pos ⟨by unfold winV; omega, by omega⟩]
                     rfl)
                  | trace_state
              · try simp only [decide_eq_true_eq, decide_eq_false_iff_not, Bool.not_eq_true', Bool.not_eq_false', Int.not_lt, Int.not_le, Nat.not_lt, Nat.not_le, Bool.true_eq, Bool.false_eq, reduceCtorEq] at c68
                refine gl_un rfl rfl rfl rfl ?_
                refine gl_op rfl rfl rfl (op_pure hT rfl) ?_
                refine gl_un rfl rfl rfl rfl ?_
                refine gl_op rfl rfl rfl (op_pure hT rfl) ?_
                refine gl_op rfl rfl rfl (op_pure hT rfl) ?_
                refine gl_nil ?_
                refine hK21 _ _ ?_
                clear hK21; try clear K21
                refine gc_cond rfl rfl (fun c71 => ?_) (fun c71 => ?_)
                · try simp only [decide_eq_true_eq, decide_eq_false_iff_not, Bool.not_eq_true', Bool.not_eq_false', Int.not_lt, Int.not_le, Nat.not_lt, Nat.not_le, Bool.true_eq, Bool.false_eq, reduceCtorEq] at c71
                  refine gc_seq fun K23 hK23 => ?_
                  refine gc_region ?_
                  refine gl_op rfl rfl rfl (op_buildG rfl plan27 rfl rfl) ?_
                  refine gl_storeM 2 hS el27 rfl rfl rfl rfl rfl rfl rfl rfl rfl fun wambitref6_go_164 hS => ?_
                  refine gl_op rfl rfl rfl (op_pure hT rfl) ?_
                  refine gl_nil ?_
                  refine hK23 _ _ ?_
                  clear hK23; try clear K23
                  refine gc_ret ?_
                  try simp only [x_then_ret, x_block_ret]
                  refine gk_res2 rfl (⟨_, rfl, run_loadVarB 2 Try.underlying27 rfl el27 hS rfl rfl rfl⟩) (rfl) ?_
                  refine ⟨?_, hS.below⟩
                  first
                    | (have hb := sizeV_ok c98
                       unfold outV
                       rw [if_neg (by rw [c14]; simp), if_neg hsz.1, if_neg hnw, if_neg hn6, if_neg hb.1]
                       rfl)
                    | (have hb := sizeV_bad c98
                       unfold outV
                       rw [if_neg (by rw [c14]; simp), if_neg hsz.1, if_neg hnw, if_neg hn6, if_pos hb.1, hb.2]
                       rfl)
                    | (unfold outV
                       rw [if_neg (by rw [c14]; simp), if_neg hsz.1, if_neg (fun h => absurd h.1 (by unfold winV; omega)), if_pos ⟨by omega, by omega⟩]
                       rfl)
                    | (unfold outV
                       rw [if_neg (by rw [c14]; simp), if_neg hsz.1, if_pos ⟨by unfold winV; omega, by omega⟩]
                       rfl)
                    | trace_state
                · try simp only [decide_eq_true_eq, decide_eq_false_iff_not, Bool.not_eq_true', Bool.not_eq_false', Int.not_lt, Int.not_le, Nat.not_lt, Nat.not_le, Bool.true_eq, Bool.false_eq, reduceCtorEq] at c71
                  refine gc_skip ?_
                  refine hK20 _ _ ?_
                  clear hK20; try clear K20
                  refine gc_seq fun K24 hK24 => ?_
                  refine gc_anyS (hS.blank 3) (by kernel_rfl) rfl fun nq21 hK => ?_
                  have hS := hS.dr nq21
                  refine ga_take 0 rfl rfl rfl rfl (by kernel_rfl) (fun _ _ _ _ _ h => h) hK (fun w1 hS => op_fieldB 0 rfl Try.underlying27 rfl el3 rfl rfl) ?_
                  refine ga_take 1 rfl rfl rfl rfl (by kernel_rfl) (fun _ _ _ _ _ h => h) hK (fun w1 hS => op_loadB 1 hT hS rfl rfl rfl rfl rfl rfl) ?_
                  refine ga_take 2 rfl rfl rfl rfl (by kernel_rfl) (fun _ _ _ _ _ h => h) hK (fun w1 hS => op_pure hT rfl) ?_
                  refine ga_take 3 rfl rfl rfl rfl (by kernel_rfl) (fun _ _ _ _ _ h => h) hK (fun w1 hS => op_fieldB 4 rfl Try.underlying60 rfl el3 rfl rfl) ?_
                  refine ga_take 4 rfl rfl rfl rfl (by kernel_rfl) (fun _ _ _ _ _ h => h) hK (fun w1 hS => op_loadB 0 hT hS rfl rfl rfl rfl rfl rfl) ?_
                  refine ga_take 5 rfl rfl rfl rfl (by kernel_rfl) (fun _ _ _ _ _ h => h) hK (fun w1 hS => (by first | exact op_quo hT rfl (by omega) (by omega) | exact op_pure hT rfl | exact op_quoS rfl rfl rfl (by omega) (by omega))) ?_
                  have hd78 := div_bd (a := s.h + 2 * L.ph - L.kh) (b := L.sh) (by omega) (by omega)
                  refine ga_take 6 rfl rfl rfl rfl (by kernel_rfl) (fun _ _ _ _ _ h => h) hK (fun w1 hS => (by first | exact op_fit hT rfl (by omega) | exact op_pure hT rfl)) ?_
                  refine ga_take 7 rfl rfl rfl rfl (by kernel_rfl) (fun _ _ _ _ _ h => h) hK (fun w1 hS => op_pure hT rfl) ?_
                  refine ga_take 8 rfl rfl rfl rfl (by kernel_rfl) (fun _ _ _ _ _ h => h) hK (fun w1 hS => op_fieldB 5 rfl Try.underlying60 rfl el3 rfl rfl) ?_
                  refine ga_take 9 rfl rfl rfl rfl (by kernel_rfl) (fun _ _ _ _ _ h => h) hK (fun w1 hS => op_loadB 0 hT hS rfl rfl rfl rfl rfl rfl) ?_
                  refine ga_take 10 rfl rfl rfl rfl (by kernel_rfl) (fun _ _ _ _ _ h => h) hK (fun w1 hS => (by first | exact op_quo hT rfl (by omega) (by omega) | exact op_pure hT rfl | exact op_quoS rfl rfl rfl (by omega) (by omega))) ?_
                  have hd83 := div_bd (a := s.w + 2 * L.pw - L.kw) (b := L.sw) (by omega) (by omega)
                  refine ga_take 11 rfl rfl rfl rfl (by kernel_rfl) (fun _ _ _ _ _ h => h) hK (fun w1 hS => (by first | exact op_fit hT rfl (by omega) | exact op_pure hT rfl)) ?_
                  refine ga_take 12 rfl rfl rfl rfl (by kernel_rfl) (fun _ _ _ _ _ h => h) hK (fun w1 hS => op_buildG rfl plan27 rfl rfl) ?_
                  refine ga_one 13 (by kernel_rfl) rfl ?_
                  refine gl_storeM 3 hS el27 rfl rfl rfl rfl rfl rfl rfl rfl rfl fun wambitref6_go_166 hS => ?_
                  refine gl_nil ?_
                  refine ga_next ((hS.blank 3).pre 4) fun hK => ?_
                  refine ga_done (by kernel_rfl) ?_
                  refine hK24 _ _ ?_
                  clear hK24; try clear K24
                  refine gc_seq fun K25 hK25 => ?_
                  refine gc_region ?_
                  refine gl_op rfl rfl rfl (op_fieldB 0 rfl Try.underlying60 rfl el3 rfl rfl) ?_
                  refine gl_op rfl rfl rfl (op_loadB 0 hT hS rfl rfl rfl rfl rfl rfl) ?_
                  refine gl_op rfl rfl rfl (op_pure hT rfl) ?_
                  refine gl_nil ?_
                  refine hK25 _ _ ?_
                  clear hK25; try clear K25
                  refine gc_cond rfl rfl (fun c88 => ?_) (fun c88 => ?_)
                  · try simp only [decide_eq_true_eq, decide_eq_false_iff_not, Bool.not_eq_true', Bool.not_eq_false', Int.not_lt, Int.not_le, Nat.not_lt, Nat.not_le, Bool.true_eq, Bool.false_eq, reduceCtorEq] at c88
                    refine gc_region ?_
                    refine gl_op rfl rfl rfl (op_fieldB 1 rfl Try.underlying60 rfl el3 rfl rfl) ?_
                    refine gl_op rfl rfl rfl (op_loadB 0 hT hS rfl rfl rfl rfl rfl rfl) ?_
                    refine gl_op rfl rfl rfl (op_fieldB 0 rfl Try.underlying27 rfl el3 rfl rfl) ?_
                    refine gl_store 3 hS el3.cellsOf.1 el3.cellsOf.2 rfl rfl rfl rfl rfl rfl rfl rfl fun wambitref6_go_168 hS => ?_
                    refine gl_nil ?_
                    intro a' ha
                    first
                      | (refine ⟨ha.sub ⟨rfl, rfl, trivial⟩, fun h => absurd h.1 (by unfold winV; omega), fun h => absurd h.1 (by omega), ?_⟩
                         rw [show outS L s = ⟨L.out, 1, 1⟩ by unfold outS; rw [if_pos (by omega)]]
                         exact hS)
                      | (refine ⟨ha.sub ⟨rfl, rfl, trivial⟩, fun h => absurd h.1 (by unfold winV; omega), fun h => absurd h.2 (by omega), ?_⟩
                         rw [show outS L s = ⟨2 * L.out, 1, 1⟩ by unfold outS; rw [if_neg (by omega), if_pos (by omega)]]
                         exact hS)
                      | (refine ⟨ha.sub ⟨rfl, rfl, trivial⟩, fun h => absurd h.1 (by unfold winV; omega), fun h => absurd h.1 (by omega), ?_⟩
                         rw [show outS L s = s by unfold outS; rw [if_neg (by omega), if_neg (by omega), if_neg (show ¬ winV L.k by unfold winV; omega)]]
                         exact hS)
                      | (refine ⟨ha.sub ⟨rfl, rfl, trivial⟩, fun h => absurd h.2 (by omega), fun h => absurd h.1 (by omega), ?_⟩
                         rw [show outS L s = ⟨L.out, (s.h + 2 * L.ph - L.kh) / L.sh + 1, (s.w + 2 * L.pw - L.kw) / L.sw + 1⟩ by unfold outS; rw [if_neg (by omega), if_neg (by omega), if_pos (show winV L.k by unfold winV; omega), if_pos (by omega)]]
                         exact hS)
                      | (refine ⟨ha.sub ⟨rfl, rfl, trivial⟩, fun h => absurd h.2 (by omega), fun h => absurd h.1 (by omega), ?_⟩
                         rw [show outS L s = ⟨s.c, (s.h + 2 * L.ph - L.kh) / L.sh + 1, (s.w + 2 * L.pw - L.kw) / L.sw + 1⟩ by unfold outS; rw [if_neg (by omega), if_neg (by omega), if_pos (show winV L.k by unfold winV; omega), if_neg (by omega)]]
                         exact hS)
                      | trace_state
                  · try simp only [decide_eq_true_eq, decide_eq_false_iff_not, Bool.not_eq_true', Bool.not_eq_false', Int.not_lt, Int.not_le, Nat.not_lt, Nat.not_le, Bool.true_eq, Bool.false_eq, reduceCtorEq] at c88
                    refine gc_skip ?_
                    intro a' ha
                    first
                      | (refine ⟨ha.sub ⟨rfl, rfl, trivial⟩, fun h => absurd h.1 (by unfold winV; omega), fun h => absurd h.1 (by omega), ?_⟩
                         rw [show outS L s = ⟨L.out, 1, 1⟩ by unfold outS; rw [if_pos (by omega)]]
                         exact hS)
                      | (refine ⟨ha.sub ⟨rfl, rfl, trivial⟩, fun h => absurd h.1 (by unfold winV; omega), fun h => absurd h.2 (by omega), ?_⟩
                         rw [show outS L s = ⟨2 * L.out, 1, 1⟩ by unfold outS; rw [if_neg (by omega), if_pos (by omega)]]
                         exact hS)
                      | (refine ⟨ha.sub ⟨rfl, rfl, trivial⟩, fun h => absurd h.1 (by unfold winV; omega), fun h => absurd h.1 (by omega), ?_⟩
                         rw [show outS L s = s by unfold outS; rw [if_neg (by omega), if_neg (by omega), if_neg (show ¬ winV L.k by unfold winV; omega)]]
                         exact hS)
                      | (refine ⟨ha.sub ⟨rfl, rfl, trivial⟩, fun h => absurd h.2 (by omega), fun h => absurd h.1 (by omega), ?_⟩
                         rw [show outS L s = ⟨L.out, (s.h + 2 * L.ph - L.kh) / L.sh + 1, (s.w + 2 * L.pw - L.kw) / L.sw + 1⟩ by unfold outS; rw [if_neg (by omega), if_neg (by omega), if_pos (show winV L.k by unfold winV; omega), if_pos (by omega)]]
                         exact hS)
                      | (refine ⟨ha.sub ⟨rfl, rfl, trivial⟩, fun h => absurd h.2 (by omega), fun h => absurd h.1 (by omega), ?_⟩
                         rw [show outS L s = ⟨s.c, (s.h + 2 * L.ph - L.kh) / L.sh + 1, (s.w + 2 * L.pw - L.kw) / L.sw + 1⟩ by unfold outS; rw [if_neg (by omega), if_neg (by omega), if_pos (show winV L.k by unfold winV; omega), if_neg (by omega)]]
                         exact hS)
                      | trace_state
            · try simp only [decide_eq_true_eq, decide_eq_false_iff_not, Bool.not_eq_true', Bool.not_eq_false', Int.not_lt, Int.not_le, Nat.not_lt, Nat.not_le, Bool.true_eq, Bool.false_eq, reduceCtorEq] at c44
              refine gc_seq fun K26 hK26 => ?_
              refine gc_region ?_
              refine gl_op rfl rfl rfl (op_pure hT rfl) ?_
              refine gl_op rfl rfl rfl (op_pure hT rfl) ?_
              refine gl_nil ?_
              refine hK26 _ _ ?_
              clear hK26; try clear K26
              refine gc_cond rfl rfl (fun c44 => ?_) (fun c44 => ?_)
              · try simp only [decide_eq_true_eq, decide_eq_false_iff_not, Bool.not_eq_true', Bool.not_eq_false', Int.not_lt, Int.not_le, Nat.not_lt, Nat.not_le, Bool.true_eq, Bool.false_eq, reduceCtorEq] at c44
                refine gc_skip ?_
                refine hK17 _ _ ?_
                clear hK17; try clear K17
                refine gc_cond_t rfl ?_
                refine gc_seq fun K27 hK27 => ?_
                refine gc_anyS hS (by kernel_rfl) rfl fun nq18 hK => ?_
                have hS := hS.dr nq18
                have hwn := fld_win hfo (show winV L.k by unfold winV; omega)
                refine ga_take 0 rfl rfl rfl rfl (by kernel_rfl) (fun _ _ _ _ _ h => h) hK (fun w1 hS => op_fieldB 1 rfl Try.underlying27 rfl el3 rfl rfl) ?_
                refine ga_take 1 rfl rfl rfl rfl (by kernel_rfl) (fun _ _ _ _ _ h => h) hK (fun w1 hS => op_loadB 1 hT hS rfl rfl rfl rfl rfl rfl) ?_
                refine ga_take 2 rfl rfl rfl rfl (by kernel_rfl) (fun _ _ _ _ _ h => h) hK (fun w1 hS => op_fieldB 6 rfl Try.underlying60 rfl el3 rfl rfl) ?_
                refine ga_take 3 rfl rfl rfl rfl (by kernel_rfl) (fun _ _ _ _ _ h => h) hK (fun w1 hS => op_loadB 0 hT hS rfl rfl rfl rfl rfl rfl) ?_
                refine ga_take 4 rfl rfl rfl rfl (by kernel_rfl) (fun _ _ _ _ _ h => h) hK (fun w1 hS => (by first | exact op_fit hT rfl (by omega) | exact op_pure hT rfl)) ?_
                refine ga_take 5 rfl rfl rfl rfl (by kernel_rfl) (fun _ _ _ _ _ h => h) hK (fun w1 hS => (by first | exact op_fit hT rfl (by omega) | exact op_pure hT rfl)) ?_
                refine ga_take 6 rfl rfl rfl rfl (by kernel_rfl) (fun _ _ _ _ _ h => h) hK (fun w1 hS => op_fieldB 2 rfl Try.underlying60 rfl el3 rfl rfl) ?_
                refine ga_take 7 rfl rfl rfl rfl (by kernel_rfl) (fun _ _ _ _ _ h => h) hK (fun w1 hS => op_loadB 0 hT hS rfl rfl rfl rfl rfl rfl) ?_
                refine ga_take 8 rfl rfl rfl rfl (by kernel_rfl) (fun _ _ _ _ _ h => h) hK (fun w1 hS => (by first | exact op_fit hT rfl (by omega) | exact op_pure hT rfl)) ?_
                refine ga_take 9 rfl rfl rfl rfl (by kernel_rfl) (fun _ _ _ _ _ h => h) hK (fun w1 hS => op_fieldB 2 rfl Try.underlying27 rfl el3 rfl rfl) ?_
                refine ga_take 10 rfl rfl rfl rfl (by kernel_rfl) (fun _ _ _ _ _ h => h) hK (fun w1 hS => op_loadB 1 hT hS rfl rfl rfl rfl rfl rfl) ?_
                refine ga_take 11 rfl rfl rfl rfl (by kernel_rfl) (fun _ _ _ _ _ h => h) hK (fun w1 hS => op_fieldB 7 rfl Try.underlying60 rfl el3 rfl rfl) ?_
                refine ga_take 12 rfl rfl rfl rfl (by kernel_rfl) (fun _ _ _ _ _ h => h) hK (fun w1 hS => op_loadB 0 hT hS rfl rfl rfl rfl rfl rfl) ?_
                refine ga_take 13 rfl rfl rfl rfl (by kernel_rfl) (fun _ _ _ _ _ h => h) hK (fun w1 hS => (by first | exact op_fit hT rfl (by omega) | exact op_pure hT rfl)) ?_
                refine ga_take 14 rfl rfl rfl rfl (by kernel_rfl) (fun _ _ _ _ _ h => h) hK (fun w1 hS => (by first | exact op_fit hT rfl (by omega) | exact op_pure hT rfl)) ?_
                refine ga_take 15 rfl rfl rfl rfl (by kernel_rfl) (fun _ _ _ _ _ h => h) hK (fun w1 hS => op_fieldB 3 rfl Try.underlying60 rfl el3 rfl rfl) ?_
                refine ga_take 16 rfl rfl rfl rfl (by kernel_rfl) (fun _ _ _ _ _ h => h) hK (fun w1 hS => op_loadB 0 hT hS rfl rfl rfl rfl rfl rfl) ?_
                refine ga_take 17 rfl rfl rfl rfl (by kernel_rfl) (fun _ _ _ _ _ h => h) hK (fun w1 hS => (by first | exact op_fit hT rfl (by omega) | exact op_pure hT rfl)) ?_
                refine ga_take 18 rfl rfl rfl rfl (by kernel_rfl) (fun _ _ _ _ _ h => h) hK (fun w1 hS => op_pure hT rfl) ?_
                refine ga_take 19 rfl rfl rfl rfl (by kernel_rfl) (fun _ _ _ _ _ h => h) hK (fun w1 hS => op_pure hT rfl) ?_
                refine ga_done (by kernel_rfl) ?_
                refine hK27 _ _ ?_
                clear hK27; try clear K27
                refine gc_seq fun K28 hK28 => ?_
                refine gc_seq fun K29 hK29 => ?_
                refine gc_region ?_
                refine gl_op rfl rfl rfl (op_pure hT rfl) ?_
                refine gl_op rfl rfl rfl (op_pure hT rfl) ?_
                refine gl_op rfl rfl rfl (op_pure hT rfl) ?_
                refine gl_split (t := 68) rfl (fun c68 => ?_) (fun c68 => ?_)
                · try simp only [decide_eq_true_eq, decide_eq_false_iff_not, Bool.not_eq_true', Bool.not_eq_false', Int.not_lt, Int.not_le, Nat.not_lt, Nat.not_le, Bool.true_eq, Bool.false_eq, reduceCtorEq] at c68
                  refine gl_pass rfl rfl rfl rfl rfl rfl ?_
                  refine gl_pass rfl rfl rfl rfl rfl rfl ?_
                  refine gl_op rfl rfl rfl (op_pure hT rfl) ?_
                  refine gl_nil ?_
                  refine hK29 _ _ ?_
                  clear hK29; try clear K29
                  refine gc_cond_t rfl ?_
                  refine gc_seq fun K30 hK30 => ?_
                  refine gc_region ?_
                  refine gl_op rfl rfl rfl (op_buildG rfl plan27 rfl rfl) ?_
                  refine gl_storeM 2 hS el27 rfl rfl rfl rfl rfl rfl rfl rfl rfl fun wambitref6_go_164 hS => ?_
                  refine gl_op rfl rfl rfl (op_pure hT rfl) ?_
                  refine gl_nil ?_
                  refine hK30 _ _ ?_
                  clear hK30; try clear K30
                  refine gc_ret ?_
                  try simp only [x_then_ret, x_block_ret]
                  refine gk_res2 rfl (⟨_, rfl, run_loadVarB 2 Try.underlying27 rfl el27 hS rfl rfl rfl⟩) (rfl) ?_
                  refine ⟨?_, hS.below⟩
                  first
                    | (have hb := sizeV_ok c98
                       unfold outV
                       rw [if_neg (by rw [c14]; simp), if_neg hsz.1, if_neg hnw, if_neg hn6, if_neg hb.1]
                       rfl)
                    | (have hb := sizeV_bad c98
                       unfold outV
                       rw [if_neg (by rw [c14]; simp), if_neg hsz.1, if_neg hnw, if_neg hn6, if_pos hb.1, hb.2]
                       rfl)
                    | (unfold outV
                       rw [if_neg (by rw [c14]; simp), if_neg hsz.1, if_neg (fun h => absurd h.1 (by unfold winV; omega)), if_pos ⟨by omega, by omega⟩]
                       rfl)
                    | (unfold outV
                       rw [if_neg (by rw [c14]; simp), if_neg hsz.1, if_pos ⟨by unfold winV; omega, by omega⟩]
                       rfl)
                    | trace_state
                · try simp only [decide_eq_true_eq, decide_eq_false_iff_not, Bool.not_eq_true', Bool.not_eq_false', Int.not_lt, Int.not_le, Nat.not_lt, Nat.not_le, Bool.true_eq, Bool.false_eq, reduceCtorEq] at c68
                  refine gl_un rfl rfl rfl rfl ?_
                  refine gl_op rfl rfl rfl (op_pure hT rfl) ?_
                  refine gl_un rfl rfl rfl rfl ?_
                  refine gl_op rfl rfl rfl (op_pure hT rfl) ?_
                  refine gl_op rfl rfl rfl (op_pure hT rfl) ?_
                  refine gl_nil ?_
                  refine hK29 _ _ ?_
                  clear hK29; try clear K29
                  refine gc_cond rfl rfl (fun c71 => ?_) (fun c71 => ?_)
                  · try simp only [decide_eq_true_eq, decide_eq_false_iff_not, Bool.not_eq_true', Bool.not_eq_false', Int.not_lt, Int.not_le, Nat.not_lt, Nat.not_le, Bool.true_eq, Bool.false_eq, reduceCtorEq] at c71
                    refine gc_seq fun K31 hK31 => ?_
                    refine gc_region ?_
                    refine gl_op rfl rfl rfl (op_buildG rfl plan27 rfl rfl) ?_
                    refine gl_storeM 2 hS el27 rfl rfl rfl rfl rfl rfl rfl rfl rfl fun wambitref6_go_164 hS => ?_
                    refine gl_op rfl rfl rfl (op_pure hT rfl) ?_
                    refine gl_nil ?_
                    refine hK31 _ _ ?_
                    clear hK31; try clear K31
                    refine gc_ret ?_
                    try simp only [x_then_ret, x_block_ret]
                    refine gk_res2 rfl (⟨_, rfl, run_loadVarB 2 Try.underlying27 rfl el27 hS rfl rfl rfl⟩) (rfl) ?_
                    refine ⟨?_, hS.below⟩
                    first
                      | (have hb := sizeV_ok c98
                         unfold outV
                         rw [if_neg (by rw [c14]; simp), if_neg hsz.1, if_neg hnw, if_neg hn6, if_neg hb.1]
                         rfl)
                      | (have hb := sizeV_bad c98
                         unfold outV
                         rw [if_neg (by rw [c14]; simp), if_neg hsz.1, if_neg hnw, if_neg hn6, if_pos hb.1, hb.2]
                         rfl)
                      | (unfold outV
                         rw [if_neg (by rw [c14]; simp), if_neg hsz.1, if_neg (fun h => absurd h.1 (by unfold winV; omega)), if_pos ⟨by omega, by omega⟩]
                         rfl)
                      | (unfold outV
                         rw [if_neg (by rw [c14]; simp), if_neg hsz.1, if_pos ⟨by unfold winV; omega, by omega⟩]
                         rfl)
                      | trace_state
                  · try simp only [decide_eq_true_eq, decide_eq_false_iff_not, Bool.not_eq_true', Bool.not_eq_false', Int.not_lt, Int.not_le, Nat.not_lt, Nat.not_le, Bool.true_eq, Bool.false_eq, reduceCtorEq] at c71
                    refine gc_skip ?_
                    refine hK28 _ _ ?_
                    clear hK28; try clear K28
                    refine gc_seq fun K32 hK32 => ?_
                    refine gc_anyS (hS.blank 3) (by kernel_rfl) rfl fun nq21 hK => ?_
                    have hS := hS.dr nq21
                    refine ga_take 0 rfl rfl rfl rfl (by kernel_rfl) (fun _ _ _ _ _ h => h) hK (fun w1 hS => op_fieldB 0 rfl Try.underlying27 rfl el3 rfl rfl) ?_
                    refine ga_take 1 rfl rfl rfl rfl (by kernel_rfl) (fun _ _ _ _ _ h => h) hK (fun w1 hS => op_loadB 1 hT hS rfl rfl rfl rfl rfl rfl) ?_
                    refine ga_take 2 rfl rfl rfl rfl (by kernel_rfl) (fun _ _ _ _ _ h => h) hK (fun w1 hS => op_pure hT rfl) ?_
                    refine ga_take 3 rfl rfl rfl rfl (by kernel_rfl) (fun _ _ _ _ _ h => h) hK (fun w1 hS => op_fieldB 4 rfl Try.underlying60 rfl el3 rfl rfl) ?_
                    refine ga_take 4 rfl rfl rfl rfl (by kernel_rfl) (fun _ _ _ _ _ h => h) hK (fun w1 hS => op_loadB 0 hT hS rfl rfl rfl rfl rfl rfl) ?_
                    refine ga_take 5 rfl rfl rfl rfl (by kernel_rfl) (fun _ _ _ _ _ h => h) hK (fun w1 hS => (by first | exact op_quo hT rfl (by omega) (by omega) | exact op_pure hT rfl | exact op_quoS rfl rfl rfl (by omega) (by omega))) ?_
                    have hd78 := div_bd (a := s.h + 2 * L.ph - L.kh) (b := L.sh) (by omega) (by omega)
                    refine ga_take 6 rfl rfl rfl rfl (by kernel_rfl) (fun _ _ _ _ _ h => h) hK (fun w1 hS => (by first | exact op_fit hT rfl (by omega) | exact op_pure hT rfl)) ?_
                    refine ga_take 7 rfl rfl rfl rfl (by kernel_rfl) (fun _ _ _ _ _ h => h) hK (fun w1 hS => op_pure hT rfl) ?_
                    refine ga_take 8 rfl rfl rfl rfl (by kernel_rfl) (fun _ _ _ _ _ h => h) hK (fun w1 hS => op_fieldB 5 rfl Try.underlying60 rfl el3 rfl rfl) ?_
                    refine ga_take 9 rfl rfl rfl rfl (by kernel_rfl) (fun _ _ _ _ _ h => h) hK (fun w1 hS => op_loadB 0 hT hS rfl rfl rfl rfl rfl rfl) ?_
                    refine ga_take 10 rfl rfl rfl rfl (by kernel_rfl) (fun _ _ _ _ _ h => h) hK (fun w1 hS => (by first | exact op_quo hT rfl (by omega) (by omega) | exact op_pure hT rfl | exact op_quoS rfl rfl rfl (by omega) (by omega))) ?_
                    have hd83 := div_bd (a := s.w + 2 * L.pw - L.kw) (b := L.sw) (by omega) (by omega)
                    refine ga_take 11 rfl rfl rfl rfl (by kernel_rfl) (fun _ _ _ _ _ h => h) hK (fun w1 hS => (by first | exact op_fit hT rfl (by omega) | exact op_pure hT rfl)) ?_
                    refine ga_take 12 rfl rfl rfl rfl (by kernel_rfl) (fun _ _ _ _ _ h => h) hK (fun w1 hS => op_buildG rfl plan27 rfl rfl) ?_
                    refine ga_one 13 (by kernel_rfl) rfl ?_
                    refine gl_storeM 3 hS el27 rfl rfl rfl rfl rfl rfl rfl rfl rfl fun wambitref6_go_166 hS => ?_
                    refine gl_nil ?_
                    refine ga_next ((hS.blank 3).pre 4) fun hK => ?_
                    refine ga_done (by kernel_rfl) ?_
                    refine hK32 _ _ ?_
                    clear hK32; try clear K32
                    refine gc_seq fun K33 hK33 => ?_
                    refine gc_region ?_
                    refine gl_op rfl rfl rfl (op_fieldB 0 rfl Try.underlying60 rfl el3 rfl rfl) ?_
                    refine gl_op rfl rfl rfl (op_loadB 0 hT hS rfl rfl rfl rfl rfl rfl) ?_
                    refine gl_op rfl rfl rfl (op_pure hT rfl) ?_
                    refine gl_nil ?_
                    refine hK33 _ _ ?_
                    clear hK33; try clear K33
                    refine gc_cond rfl rfl (fun c88 => ?_) (fun c88 => ?_)
                    · try simp only [decide_eq_true_eq, decide_eq_false_iff_not, Bool.not_eq_true', Bool.not_eq_false', Int.not_lt, Int.not_le, Nat.not_lt, Nat.not_le, Bool.true_eq, Bool.false_eq, reduceCtorEq] at c88
                      refine gc_region ?_
                      refine gl_op rfl rfl rfl (op_fieldB 1 rfl Try.underlying60 rfl el3 rfl rfl) ?_
                      refine gl_op rfl rfl rfl (op_loadB 0 hT hS rfl rfl rfl rfl rfl rfl) ?_
                      refine gl_op rfl rfl rfl (op_fieldB 0 rfl Try.underlying27 rfl el3 rfl rfl) ?_
                      refine gl_store 3 hS el3.cellsOf.1 el3.cellsOf.2 rfl rfl rfl rfl rfl rfl rfl rfl fun wambitref6_go_168 hS => ?_
                      refine gl_nil ?_
                      intro a' ha
                      first
                        | (refine ⟨ha.sub ⟨rfl, rfl, trivial⟩, fun h => absurd h.1 (by unfold winV; omega), fun h => absurd h.1 (by omega), ?_⟩
                           rw [show outS L s = ⟨L.out, 1, 1⟩ by unfold outS; rw [if_pos (by omega)]]
                           exact hS)
                        | (refine ⟨ha.sub ⟨rfl, rfl, trivial⟩, fun h => absurd h.1 (by unfold winV; omega), fun h => absurd h.2 (by omega), ?_⟩
                           rw [show outS L s = ⟨2 * L.out, 1, 1⟩ by unfold outS; rw [if_neg (by omega), if_pos (by omega)]]
                           exact hS)
                        | (refine ⟨ha.sub ⟨rfl, rfl, trivial⟩, fun h => absurd h.1 (by unfold winV; omega), fun h => absurd h.1 (by omega), ?_⟩
                           rw [show outS L s = s by unfold outS; rw [if_neg (by omega), if_neg (by omega), if_neg (show ¬ winV L.k by unfold winV; omega)]]
                           exact hS)
                        | (refine ⟨ha.sub ⟨rfl, rfl, trivial⟩, fun h => absurd h.2 (by omega), fun h => absurd h.1 (by omega), ?_⟩
                           rw [show outS L s = ⟨L.out, (s.h + 2 * L.ph - L.kh) / L.sh + 1, (s.w + 2 * L.pw - L.kw) / L.sw + 1⟩ by unfold outS; rw [if_neg (by omega), if_neg (by omega), if_pos (show winV L.k by unfold winV; omega), if_pos (by omega)]]
                           exact hS)
                        | (refine ⟨ha.sub ⟨rfl, rfl, trivial⟩, fun h => absurd h.2 (by omega), fun h => absurd h.1 (by omega), ?_⟩
                           rw [show outS L s = ⟨s.c, (s.h + 2 * L.ph - L.kh) / L.sh + 1, (s.w + 2 * L.pw - L.kw) / L.sw + 1⟩ by unfold outS; rw [if_neg (by omega), if_neg (by omega), if_pos (show winV L.k by unfold winV; omega), if_neg (by omega)]]
                           exact hS)
                        | trace_state
                    · try simp only [decide_eq_true_eq, decide_eq_false_iff_not, Bool.not_eq_true', Bool.not_eq_false', Int.not_lt, Int.not_le, Nat.not_lt, Nat.not_le, Bool.true_eq, Bool.false_eq, reduceCtorEq] at c88
                      refine gc_skip ?_
                      intro a' ha
                      first
                        | (refine ⟨ha.sub ⟨rfl, rfl, trivial⟩, fun h => absurd h.1 (by unfold winV; omega), fun h => absurd h.1 (by omega), ?_⟩
                           rw [show outS L s = ⟨L.out, 1, 1⟩ by unfold outS; rw [if_pos (by omega)]]
                           exact hS)
                        | (refine ⟨ha.sub ⟨rfl, rfl, trivial⟩, fun h => absurd h.1 (by unfold winV; omega), fun h => absurd h.2 (by omega), ?_⟩
                           rw [show outS L s = ⟨2 * L.out, 1, 1⟩ by unfold outS; rw [if_neg (by omega), if_pos (by omega)]]
                           exact hS)
                        | (refine ⟨ha.sub ⟨rfl, rfl, trivial⟩, fun h => absurd h.1 (by unfold winV; omega), fun h => absurd h.1 (by omega), ?_⟩
                           rw [show outS L s = s by unfold outS; rw [if_neg (by omega), if_neg (by omega), if_neg (show ¬ winV L.k by unfold winV; omega)]]
                           exact hS)
                        | (refine ⟨ha.sub ⟨rfl, rfl, trivial⟩, fun h => absurd h.2 (by omega), fun h => absurd h.1 (by omega), ?_⟩
                           rw [show outS L s = ⟨L.out, (s.h + 2 * L.ph - L.kh) / L.sh + 1, (s.w + 2 * L.pw - L.kw) / L.sw + 1⟩ by unfold outS; rw [if_neg (by omega), if_neg (by omega), if_pos (show winV L.k by unfold winV; omega), if_pos (by omega)]]
                           exact hS)
                        | (refine ⟨ha.sub ⟨rfl, rfl, trivial⟩, fun h => absurd h.2 (by omega), fun h => absurd h.1 (by omega), ?_⟩
                           rw [show outS L s = ⟨s.c, (s.h + 2 * L.ph - L.kh) / L.sh + 1, (s.w + 2 * L.pw - L.kw) / L.sw + 1⟩ by unfold outS; rw [if_neg (by omega), if_neg (by omega), if_pos (show winV L.k by unfold winV; omega), if_neg (by omega)]]
                           exact hS)
                        | trace_state
              · try simp only [decide_eq_true_eq, decide_eq_false_iff_not, Bool.not_eq_true', Bool.not_eq_false', Int.not_lt, Int.not_le, Nat.not_lt, Nat.not_le, Bool.true_eq, Bool.false_eq, reduceCtorEq] at c44
                refine gc_region ?_
                refine gl_op rfl rfl rfl (op_pure hT rfl) ?_
                refine gl_op rfl rfl rfl (op_pure hT rfl) ?_
                refine gl_nil ?_
                refine hK17 _ _ ?_
                clear hK17; try clear K17
                refine gc_cond rfl rfl (fun c44 => ?_) (fun c44 => ?_)
                · try simp only [decide_eq_true_eq, decide_eq_false_iff_not, Bool.not_eq_true', Bool.not_eq_false', Int.not_lt, Int.not_le, Nat.not_lt, Nat.not_le, Bool.true_eq, Bool.false_eq, reduceCtorEq] at c44
                  refine gc_seq fun K34 hK34 => ?_
                  refine gc_anyS hS (by kernel_rfl) rfl fun nq18 hK => ?_
                  have hS := hS.dr nq18
                  have hwn := fld_win hfo (show winV L.k by unfold winV; omega)
                  refine ga_take 0 rfl rfl rfl rfl (by kernel_rfl) (fun _ _ _ _ _ h => h) hK (fun w1 hS => op_fieldB 1 rfl Try.underlying27 rfl el3 rfl rfl) ?_
                  refine ga_take 1 rfl rfl rfl rfl (by kernel_rfl) (fun _ _ _ _ _ h => h) hK (fun w1 hS => op_loadB 1 hT hS rfl rfl rfl rfl rfl rfl) ?_
                  refine ga_take 2 rfl rfl rfl rfl (by kernel_rfl) (fun _ _ _ _ _ h => h) hK (fun w1 hS => op_fieldB 6 rfl Try.underlying60 rfl el3 rfl rfl) ?_
                  refine ga_take 3 rfl rfl rfl rfl (by kernel_rfl) (fun _ _ _ _ _ h => h) hK (fun w1 hS => op_loadB 0 hT hS rfl rfl rfl rfl rfl rfl) ?_
                  refine ga_take 4 rfl rfl rfl rfl (by kernel_rfl) (fun _ _ _ _ _ h => h) hK (fun w1 hS => (by first | exact op_fit hT rfl (by omega) | exact op_pure hT rfl)) ?_
                  refine ga_take 5 rfl rfl rfl rfl (by kernel_rfl) (fun _ _ _ _ _ h => h) hK (fun w1 hS => (by first | exact op_fit hT rfl (by omega) | exact op_pure hT rfl)) ?_
                  refine ga_take 6 rfl rfl rfl rfl (by kernel_rfl) (fun _ _ _ _ _ h => h) hK (fun w1 hS => op_fieldB 2 rfl Try.underlying60 rfl el3 rfl rfl) ?_
                  refine ga_take 7 rfl rfl rfl rfl (by kernel_rfl) (fun _ _ _ _ _ h => h) hK (fun w1 hS => op_loadB 0 hT hS rfl rfl rfl rfl rfl rfl) ?_
                  refine ga_take 8 rfl rfl rfl rfl (by kernel_rfl) (fun _ _ _ _ _ h => h) hK (fun w1 hS => (by first | exact op_fit hT rfl (by omega) | exact op_pure hT rfl)) ?_
                  refine ga_take 9 rfl rfl rfl rfl (by kernel_rfl) (fun _ _ _ _ _ h => h) hK (fun w1 hS => op_fieldB 2 rfl Try.underlying27 rfl el3 rfl rfl) ?_
                  refine ga_take 10 rfl rfl rfl rfl (by kernel_rfl) (fun _ _ _ _ _ h => h) hK (fun w1 hS => op_loadB 1 hT hS rfl rfl rfl rfl rfl rfl) ?_
                  refine ga_take 11 rfl rfl rfl rfl (by kernel_rfl) (fun _ _ _ _ _ h => h) hK (fun w1 hS => op_fieldB 7 rfl Try.underlying60 rfl el3 rfl rfl) ?_
                  refine ga_take 12 rfl rfl rfl rfl (by kernel_rfl) (fun _ _ _ _ _ h => h) hK (fun w1 hS => op_loadB 0 hT hS rfl rfl rfl rfl rfl rfl) ?_
                  refine ga_take 13 rfl rfl rfl rfl (by kernel_rfl) (fun _ _ _ _ _ h => h) hK (fun w1 hS => (by first | exact op_fit hT rfl (by omega) | exact op_pure hT rfl)) ?_
                  refine ga_take 14 rfl rfl rfl rfl (by kernel_rfl) (fun _ _ _ _ _ h => h) hK (fun w1 hS => (by first | exact op_fit hT rfl (by omega) | exact op_pure hT rfl)) ?_
                  refine ga_take 15 rfl rfl rfl rfl (by kernel_rfl) (fun _ _ _ _ _ h => h) hK (fun w1 hS => op_fieldB 3 rfl Try.underlying60 rfl el3 rfl rfl) ?_
                  refine ga_take 16 rfl rfl rfl rfl (by kernel_rfl) (fun _ _ _ _ _ h => h) hK (fun w1 hS => op_loadB 0 hT hS rfl rfl rfl rfl rfl rfl) ?_
                  refine ga_take 17 rfl rfl rfl rfl (by kernel_rfl) (fun _ _ _ _ _ h => h) hK (fun w1 hS => (by first | exact op_fit hT rfl (by omega) | exact op_pure hT rfl)) ?_
                  refine ga_take 18 rfl rfl rfl rfl (by kernel_rfl) (fun _ _ _ _ _ h => h) hK (fun w1 hS => op_pure hT rfl) ?_
                  refine ga_take 19 rfl rfl rfl rfl (by kernel_rfl) (fun _ _ _ _ _ h => h) hK (fun w1 hS => op_pure hT rfl) ?_
                  refine ga_done (by kernel_rfl) ?_
                  refine hK34 _ _ ?_
                  clear hK34; try clear K34
                  refine gc_seq fun K35 hK35 => ?_
                  refine gc_seq fun K36 hK36 => ?_
                  refine gc_region ?_
                  refine gl_op rfl rfl rfl (op_pure hT rfl) ?_
                  refine gl_op rfl rfl rfl (op_pure hT rfl) ?_
                  refine gl_op rfl rfl rfl (op_pure hT rfl) ?_
                  refine gl_split (t := 68) rfl (fun c68 => ?_) (fun c68 => ?_)
                  · try simp only [decide_eq_true_eq, decide_eq_false_iff_not, Bool.not_eq_true', Bool.not_eq_false', Int.not_lt, Int.not_le, Nat.not_lt, Nat.not_le, Bool.true_eq, Bool.false_eq, reduceCtorEq] at c68
                    refine gl_pass rfl rfl rfl rfl rfl rfl ?_
                    refine gl_pass rfl rfl rfl rfl rfl rfl ?_
                    refine gl_op rfl rfl rfl (op_pure hT rfl) ?_
                    refine gl_nil ?_
                    refine hK36 _ _ ?_
                    clear hK36; try clear K36
                    refine gc_cond_t rfl ?_
                    refine gc_seq fun K37 hK37 => ?_
                    refine gc_region ?_
                    refine gl_op rfl rfl rfl (op_buildG rfl plan27 rfl rfl) ?_
                    refine gl_storeM 2 hS el27 rfl rfl rfl rfl rfl rfl rfl rfl rfl fun wambitref6_go_164 hS => ?_
                    refine gl_op rfl rfl rfl (op_pure hT rfl) ?_
                    refine gl_nil ?_
                    refine hK37 _ _ ?_
                    clear hK37; try clear K37
                    refine gc_ret ?_
                    try simp only [x_then_ret, x_block_ret]
                    refine gk_res2 rfl (⟨_, rfl, run_loadVarB 2 Try.underlying27 rfl el27 hS rfl rfl rfl⟩) (rfl) ?_
                    refine ⟨?_, hS.below⟩
                    first
                      | (have hb := sizeV_ok c98
                         unfold outV
                         rw [if_neg (by rw [c14]; simp), if_neg hsz.1, if_neg hnw, if_neg hn6, if_neg hb.1]
                         rfl)
                      | (have hb := sizeV_bad c98
                         unfold outV
                         rw [if_neg (by rw [c14]; simp), if_neg hsz.1, if_neg hnw, if_neg hn6, if_pos hb.1, hb.2]
                         rfl)
                      | (unfold outV
                         rw [if_neg (by rw [c14]; simp), if_neg hsz.1, if_neg (fun h => absurd h.1 (by unfold winV; omega)), if_pos ⟨by omega, by omega⟩]
                         rfl)
                      | (unfold outV
                         rw [if_neg (by rw [c14]; simp), if_neg hsz.1, if_pos ⟨by unfold winV; omega, by omega⟩]
                         rfl)
                      | trace_state
                  · try simp only [decide_eq_true_eq, decide_eq_false_iff_not, Bool.not_eq_true', Bool.not_eq_false', Int.not_lt, Int.not_le, Nat.not_lt, Nat.not_le, Bool.true_eq, Bool.false_eq, reduceCtorEq] at c68
                    refine gl_un rfl rfl rfl rfl ?_
                    refine gl_op rfl rfl rfl (op_pure hT rfl) ?_
                    refine gl_un rfl rfl rfl rfl ?_
                    refine gl_op rfl rfl rfl (op_pure hT rfl) ?_
                    refine gl_op rfl rfl rfl (op_pure hT rfl) ?_
                    refine gl_nil ?_
                    refine hK36 _ _ ?_
                    clear hK36; try clear K36
                    refine gc_cond rfl rfl (fun c71 => ?_) (fun c71 => ?_)
                    · try simp only [decide_eq_true_eq, decide_eq_false_iff_not, Bool.not_eq_true', Bool.not_eq_false', Int.not_lt, Int.not_le, Nat.not_lt, Nat.not_le, Bool.true_eq, Bool.false_eq, reduceCtorEq] at c71
                      refine gc_seq fun K38 hK38 => ?_
                      refine gc_region ?_
                      refine gl_op rfl rfl rfl (op_buildG rfl plan27 rfl rfl) ?_
                      refine gl_storeM 2 hS el27 rfl rfl rfl rfl rfl rfl rfl rfl rfl fun wambitref6_go_164 hS => ?_
                      refine gl_op rfl rfl rfl (op_pure hT rfl) ?_
                      refine gl_nil ?_
                      refine hK38 _ _ ?_
                      clear hK38; try clear K38
                      refine gc_ret ?_
                      try simp only [x_then_ret, x_block_ret]
                      refine gk_res2 rfl (⟨_, rfl, run_loadVarB 2 Try.underlying27 rfl el27 hS rfl rfl rfl⟩) (rfl) ?_
                      refine ⟨?_, hS.below⟩
                      first
                        | (have hb := sizeV_ok c98
                           unfold outV
                           rw [if_neg (by rw [c14]; simp), if_neg hsz.1, if_neg hnw, if_neg hn6, if_neg hb.1]
                           rfl)
                        | (have hb := sizeV_bad c98
                           unfold outV
                           rw [if_neg (by rw [c14]; simp), if_neg hsz.1, if_neg hnw, if_neg hn6, if_pos hb.1, hb.2]
                           rfl)
                        | (unfold outV
                           rw [if_neg (by rw [c14]; simp), if_neg hsz.1, if_neg (fun h => absurd h.1 (by unfold winV; omega)), if_pos ⟨by omega, by omega⟩]
                           rfl)
                        | (unfold outV
                           rw [if_neg (by rw [c14]; simp), if_neg hsz.1, if_pos ⟨by unfold winV; omega, by omega⟩]
                           rfl)
                        | trace_state
                    · try simp only [decide_eq_true_eq, decide_eq_false_iff_not, Bool.not_eq_true', Bool.not_eq_false', Int.not_lt, Int.not_le, Nat.not_lt, Nat.not_le, Bool.true_eq, Bool.false_eq, reduceCtorEq] at c71
                      refine gc_skip ?_
                      refine hK35 _ _ ?_
                      clear hK35; try clear K35
                      refine gc_seq fun K39 hK39 => ?_
                      refine gc_anyS (hS.blank 3) (by kernel_rfl) rfl fun nq21 hK => ?_
                      have hS := hS.dr nq21
                      refine ga_take 0 rfl rfl rfl rfl (by kernel_rfl) (fun _ _ _ _ _ h => h) hK (fun w1 hS => op_fieldB 0 rfl Try.underlying27 rfl el3 rfl rfl) ?_
                      refine ga_take 1 rfl rfl rfl rfl (by kernel_rfl) (fun _ _ _ _ _ h => h) hK (fun w1 hS => op_loadB 1 hT hS rfl rfl rfl rfl rfl rfl) ?_
                      refine ga_take 2 rfl rfl rfl rfl (by kernel_rfl) (fun _ _ _ _ _ h => h) hK (fun w1 hS => op_pure hT rfl) ?_
                      refine ga_take 3 rfl rfl rfl rfl (by kernel_rfl) (fun _ _ _ _ _ h => h) hK (fun w1 hS => op_fieldB 4 rfl Try.underlying60 rfl el3 rfl rfl) ?_
                      refine ga_take 4 rfl rfl rfl rfl (by kernel_rfl) (fun _ _ _ _ _ h => h) hK (fun w1 hS => op_loadB 0 hT hS rfl rfl rfl rfl rfl rfl) ?_
                      refine ga_take 5 rfl rfl rfl rfl (by kernel_rfl) (fun _ _ _ _ _ h => h) hK (fun w1 hS => (by first | exact op_quo hT rfl (by omega) (by omega) | exact op_pure hT rfl | exact op_quoS rfl rfl rfl (by omega) (by omega))) ?_
                      have hd78 := div_bd (a := s.h + 2 * L.ph - L.kh) (b := L.sh) (by omega) (by omega)
                      refine ga_take 6 rfl rfl rfl rfl (by kernel_rfl) (fun _ _ _ _ _ h => h) hK (fun w1 hS => (by first | exact op_fit hT rfl (by omega) | exact op_pure hT rfl)) ?_
                      refine ga_take 7 rfl rfl rfl rfl (by kernel_rfl) (fun _ _ _ _ _ h => h) hK (fun w1 hS => op_pure hT rfl) ?_
                      refine ga_take 8 rfl rfl rfl rfl (by kernel_rfl) (fun _ _ _ _ _ h => h) hK (fun w1 hS => op_fieldB 5 rfl Try.underlying60 rfl el3 rfl rfl) ?_
                      refine ga_take 9 rfl rfl rfl rfl (by kernel_rfl) (fun _ _ _ _ _ h => h) hK (fun w1 hS => op_loadB 0 hT hS rfl rfl rfl rfl rfl rfl) ?_
                      refine ga_take 10 rfl rfl rfl rfl (by kernel_rfl) (fun _ _ _ _ _ h => h) hK (fun w1 hS => (by first | exact op_quo hT rfl (by omega) (by omega) | exact op_pure hT rfl | exact op_quoS rfl rfl rfl (by omega) (by omega))) ?_
                      have hd83 := div_bd (a := s.w + 2 * L.pw - L.kw) (b := L.sw) (by omega) (by omega)
                      refine ga_take 11 rfl rfl rfl rfl (by kernel_rfl) (fun _ _ _ _ _ h => h) hK (fun w1 hS => (by first | exact op_fit hT rfl (by omega) | exact op_pure hT rfl)) ?_
                      refine ga_take 12 rfl rfl rfl rfl (by kernel_rfl) (fun _ _ _ _ _ h => h) hK (fun w1 hS => op_buildG rfl plan27 rfl rfl) ?_
                      refine ga_one 13 (by kernel_rfl) rfl ?_
                      refine gl_storeM 3 hS el27 rfl rfl rfl rfl rfl rfl rfl rfl rfl fun wambitref6_go_166 hS => ?_
                      refine gl_nil ?_
                      refine ga_next ((hS.blank 3).pre 4) fun hK => ?_
                      refine ga_done (by kernel_rfl) ?_
                      refine hK39 _ _ ?_
                      clear hK39; try clear K39
                      refine gc_seq fun K40 hK40 => ?_
                      refine gc_region ?_
                      refine gl_op rfl rfl rfl (op_fieldB 0 rfl Try.underlying60 rfl el3 rfl rfl) ?_
                      refine gl_op rfl rfl rfl (op_loadB 0 hT hS rfl rfl rfl rfl rfl rfl) ?_
                      refine gl_op rfl rfl rfl (op_pure hT rfl) ?_
                      refine gl_nil ?_
                      refine hK40 _ _ ?_
                      clear hK40; try clear K40
                      refine gc_cond rfl rfl (fun c88 => ?_) (fun c88 => ?_)
                      · try simp only [decide_eq_true_eq, decide_eq_false_iff_not, Bool.not_eq_true', Bool.not_eq_false', Int.not_lt, Int.not_le, Nat.not_lt, Nat.not_le, Bool.true_eq, Bool.false_eq, reduceCtorEq] at c88
                        refine gc_region ?_
                        refine gl_op rfl rfl rfl (op_fieldB 1 rfl Try.underlying60 rfl el3 rfl rfl) ?_
                        refine gl_op rfl rfl rfl (op_loadB 0 hT hS rfl rfl rfl rfl rfl rfl) ?_
                        refine gl_op rfl rfl rfl (op_fieldB 0 rfl Try.underlying27 rfl el3 rfl rfl) ?_
                        refine gl_store 3 hS el3.cellsOf.1 el3.cellsOf.2 rfl rfl rfl rfl rfl rfl rfl rfl fun wambitref6_go_168 hS => ?_
                        refine gl_nil ?_
                        intro a' ha
                        first
                          | (refine ⟨ha.sub ⟨rfl, rfl, trivial⟩, fun h => absurd h.1 (by unfold winV; omega), fun h => absurd h.1 (by omega), ?_⟩
                             rw [show outS L s = ⟨L.out, 1, 1⟩ by unfold outS; rw [if_pos (by omega)]]
                             exact hS)
                          | (refine ⟨ha.sub ⟨rfl, rfl, trivial⟩, fun h => absurd h.1 (by unfold winV; omega), fun h => absurd h.2 (by omega), ?_⟩
                             rw [show outS L s = ⟨2 * L.out, 1, 1⟩ by unfold outS; rw [if_neg (by omega), if_pos (by omega)]]
                             exact hS)
                          | (refine ⟨ha.sub ⟨rfl, rfl, trivial⟩, fun h => absurd h.1 (by unfold winV; omega), fun h => absurd h.1 (by omega), ?_⟩
                             rw [show outS L s = s by unfold outS; rw [if_neg (by omega), if_neg (by omega), if_neg (show ¬ winV L.k by unfold winV; omega)]]
                             exact hS)
                          | (refine ⟨ha.sub ⟨rfl, rfl, trivial⟩, fun h => absurd h.2 (by omega), fun h => absurd h.1 (by omega), ?_⟩
                             rw [show outS L s = ⟨L.out, (s.h + 2 * L.ph - L.kh) / L.sh + 1, (s.w + 2 * L.pw - L.kw) / L.sw + 1⟩ by unfold outS; rw [if_neg (by omega), if_neg (by omega), if_pos (show winV L.k by unfold winV; omega), if_pos (by omega)]]
                             exact hS)
                          | (refine ⟨ha.sub ⟨rfl, rfl, trivial⟩, fun h => absurd h.2 (by omega), fun h => absurd h.1 (by omega), ?_⟩
                             rw [show outS L s = ⟨s.c, (s.h + 2 * L.ph - L.kh) / L.sh + 1, (s.w + 2 * L.pw - L.kw) / L.sw + 1⟩ by unfold outS; rw [if_neg (by omega), if_neg (by omega), if_pos (show winV L.k by unfold winV; omega), if_neg (by omega)]]
                             exact hS)
                          | trace_state
                      · try simp only [decide_eq_true_eq, decide_eq_false_iff_not, Bool.not_eq_true', Bool.not_eq_false', Int.not_lt, Int.not_le, Nat.not_lt, Nat.not_le, Bool.true_eq, Bool.false_eq, reduceCtorEq] at c88
                        refine gc_skip ?_
                        intro a' ha
                        first
                          | (refine ⟨ha.sub ⟨rfl, rfl, trivial⟩, fun h => absurd h.1 (by unfold winV; omega), fun h => absurd h.1 (by omega), ?_⟩
                             rw [show outS L s = ⟨L.out, 1, 1⟩ by unfold outS; rw [if_pos (by omega)]]
                             exact hS)
                          | (refine ⟨ha.sub ⟨rfl, rfl, trivial⟩, fun h => absurd h.1 (by unfold winV; omega), fun h => absurd h.2 (by omega), ?_⟩
                             rw [show outS L s = ⟨2 * L.out, 1, 1⟩ by unfold outS; rw [if_neg (by omega), if_pos (by omega)]]
                             exact hS)
                          | (refine ⟨ha.sub ⟨rfl, rfl, trivial⟩, fun h => absurd h.1 (by unfold winV; omega), fun h => absurd h.1 (by omega), ?_⟩
                             rw [show outS L s = s by unfold outS; rw [if_neg (by omega), if_neg (by omega), if_neg (show ¬ winV L.k by unfold winV; omega)]]
                             exact hS)
                          | (refine ⟨ha.sub ⟨rfl, rfl, trivial⟩, fun h => absurd h.2 (by omega), fun h => absurd h.1 (by omega), ?_⟩
                             rw [show outS L s = ⟨L.out, (s.h + 2 * L.ph - L.kh) / L.sh + 1, (s.w + 2 * L.pw - L.kw) / L.sw + 1⟩ by unfold outS; rw [if_neg (by omega), if_neg (by omega), if_pos (show winV L.k by unfold winV; omega), if_pos (by omega)]]
                             exact hS)
                          | (refine ⟨ha.sub ⟨rfl, rfl, trivial⟩, fun h => absurd h.2 (by omega), fun h => absurd h.1 (by omega), ?_⟩
                             rw [show outS L s = ⟨s.c, (s.h + 2 * L.ph - L.kh) / L.sh + 1, (s.w + 2 * L.pw - L.kw) / L.sw + 1⟩ by unfold outS; rw [if_neg (by omega), if_neg (by omega), if_pos (show winV L.k by unfold winV; omega), if_neg (by omega)]]
                             exact hS)
                          | trace_state
                · try simp only [decide_eq_true_eq, decide_eq_false_iff_not, Bool.not_eq_true', Bool.not_eq_false', Int.not_lt, Int.not_le, Nat.not_lt, Nat.not_le, Bool.true_eq, Bool.false_eq, reduceCtorEq] at c44
                  refine gc_skip ?_
                  intro a' ha
                  first
                    | (refine ⟨ha.sub ⟨rfl, rfl, trivial⟩, fun h => absurd h.1 (by unfold winV; omega), fun h => absurd h.1 (by omega), ?_⟩
                       rw [show outS L s = ⟨L.out, 1, 1⟩ by unfold outS; rw [if_pos (by omega)]]
                       exact hS)
                    | (refine ⟨ha.sub ⟨rfl, rfl, trivial⟩, fun h => absurd h.1 (by unfold winV; omega), fun h => absurd h.2 (by omega), ?_⟩
                       rw [show outS L s = ⟨2 * L.out, 1, 1⟩ by unfold outS; rw [if_neg (by omega), if_pos (by omega)]]
                       exact hS)
                    | (refine ⟨ha.sub ⟨rfl, rfl, trivial⟩, fun h => absurd h.1 (by unfold winV; omega), fun h => absurd h.1 (by omega), ?_⟩
                       rw [show outS L s = s by unfold outS; rw [if_neg (by omega), if_neg (by omega), if_neg (show ¬ winV L.k by unfold winV; omega)]]
                       exact hS)
                    | (refine ⟨ha.sub ⟨rfl, rfl, trivial⟩, fun h => absurd h.2 (by omega), fun h => absurd h.1 (by omega), ?_⟩
                       rw [show outS L s = ⟨L.out, (s.h + 2 * L.ph - L.kh) / L.sh + 1, (s.w + 2 * L.pw - L.kw) / L.sw + 1⟩ by unfold outS; rw [if_neg (by omega), if_neg (by omega), if_pos (show winV L.k by unfold winV; omega), if_pos (by omega)]]
                       exact hS)
                    | (refine ⟨ha.sub ⟨rfl, rfl, trivial⟩, fun h => absurd h.2 (by omega), fun h => absurd h.1 (by omega), ?_⟩
                       rw [show outS L s = ⟨s.c, (s.h + 2 * L.ph - L.kh) / L.sh + 1, (s.w + 2 * L.pw - L.kw) / L.sw + 1⟩ by unfold outS; rw [if_neg (by omega), if_neg (by omega), if_pos (show winV L.k by unfold winV; omega), if_neg (by omega)]]
                       exact hS)
                    | trace_state
      rintro a' w2 ⟨hF, hnw, hn6, hS⟩
      refine gc_of hF ?_
      clear hF
      have hso := outS_ok hs hgs hfo
      refine gc_seq fun K41 hK41 => ?_
      refine gc_region ?_
      refine gl_op rfl rfl rfl (op_loadG 3 Try.underlying27 rfl el27 hS rfl rfl rfl rfl rfl) ?_
      refine gl_callf rfl rfl rfl rfl Try.func17 rfl rfl rfl (fSize_calls (outS L s) _ hso) ?_
      rintro _ w94 ⟨rfl, hb94⟩
      refine ⟨_, rfl, ?_⟩
      have hS := hS.grown hb94
      refine gl_op rfl rfl rfl (op_pure hT rfl) ?_
      refine gl_op rfl rfl rfl (op_pure hT rfl) ?_
      refine gl_op rfl rfl rfl (op_pure hT rfl) ?_
      refine gl_op rfl rfl rfl (op_pure hT rfl) ?_
      refine gl_nil ?_
      refine hK41 _ _ ?_
      clear hK41; try clear K41
      refine gc_seq fun K42 hK42 => ?_
      refine gc_seq fun K43 hK43 => ?_
      refine gc_region ?_
      refine gl_op rfl rfl rfl (op_pure hT rfl) ?_
      refine gl_op rfl rfl rfl (op_pure hT rfl) ?_
      refine gl_nil ?_
      refine hK43 _ _ ?_
      clear hK43; try clear K43
      refine gc_cond rfl rfl (fun c98 => ?_) (fun c98 => ?_)
      · try simp only [decide_eq_true_eq, decide_eq_false_iff_not, Bool.not_eq_true', Bool.not_eq_false', Int.not_lt, Int.not_le, Nat.not_lt, Nat.not_le, Bool.true_eq, Bool.false_eq, reduceCtorEq] at c98
        refine gc_seq fun K44 hK44 => ?_
        refine gc_region ?_
        refine gl_op rfl rfl rfl (op_buildG rfl plan27 rfl rfl) ?_
        refine gl_op rfl rfl rfl (op_pure hT rfl) ?_
        refine gl_storeM 2 hS el27 rfl rfl rfl rfl rfl rfl rfl rfl rfl fun wambitref6_go_173 hS => ?_
        refine gl_op rfl rfl rfl (op_pure hT rfl) ?_
        refine gl_nil ?_
        refine hK44 _ _ ?_
        clear hK44; try clear K44
        refine gc_ret ?_
        try simp only [x_then_ret, x_block_ret]
        refine gk_res2 rfl (⟨_, rfl, run_loadVarB 2 Try.underlying27 rfl el27 hS rfl rfl rfl⟩) (rfl) ?_
        refine ⟨?_, hS.below⟩
        first
          | (have hb := sizeV_ok c98
             unfold outV
             rw [if_neg (by rw [c14]; simp), if_neg hsz.1, if_neg hnw, if_neg hn6, if_neg hb.1]
             rfl)
          | (have hb := sizeV_bad c98
             unfold outV
             rw [if_neg (by rw [c14]; simp), if_neg hsz.1, if_neg hnw, if_neg hn6, if_pos hb.1, hb.2]
             rfl)
          | (unfold outV
             rw [if_neg (by rw [c14]; simp), if_neg hsz.1, if_neg (fun h => absurd h.1 (by unfold winV; omega)), if_pos ⟨by omega, by omega⟩]
             rfl)
          | (unfold outV
             rw [if_neg (by rw [c14]; simp), if_neg hsz.1, if_pos ⟨by unfold winV; omega, by omega⟩]
             rfl)
          | trace_state
      · try simp only [decide_eq_true_eq, decide_eq_false_iff_not, Bool.not_eq_true', Bool.not_eq_false', Int.not_lt, Int.not_le, Nat.not_lt, Nat.not_le, Bool.true_eq, Bool.false_eq, reduceCtorEq] at c98
        refine gc_skip ?_
        refine hK42 _ _ ?_
        clear hK42; try clear K42
        refine gc_seq fun K45 hK45 => ?_
        refine gc_region ?_
        refine gl_op rfl rfl rfl (op_loadG 3 Try.underlying27 rfl el27 hS rfl rfl rfl rfl rfl) ?_
        refine gl_storeM 2 hS el27 rfl rfl rfl rfl rfl rfl rfl rfl rfl fun wambitref6_go_175 hS => ?_
        refine gl_op rfl rfl rfl (op_pure hT rfl) ?_
        refine gl_nil ?_
        refine hK45 _ _ ?_
        clear hK45; try clear K45
        refine gc_ret ?_
        try simp only [x_then_ret, x_block_ret]
        refine gk_res2 rfl (⟨_, rfl, run_loadVarB 2 Try.underlying27 rfl el27 hS rfl rfl rfl⟩) (rfl) ?_
        refine ⟨?_, hS.below⟩
        first
          | (have hb := sizeV_ok c98
             unfold outV
             rw [if_neg (by rw [c14]; simp), if_neg hsz.1, if_neg hnw, if_neg hn6, if_neg hb.1]
             rfl)
          | (have hb := sizeV_bad c98
             unfold outV
             rw [if_neg (by rw [c14]; simp), if_neg hsz.1, if_neg hnw, if_neg hn6, if_pos hb.1, hb.2]
             rfl)
          | (unfold outV
             rw [if_neg (by rw [c14]; simp), if_neg hsz.1, if_neg (fun h => absurd h.1 (by unfold winV; omega)), if_pos ⟨by omega, by omega⟩]
             rfl)
          | (unfold outV
             rw [if_neg (by rw [c14]; simp), if_neg hsz.1, if_pos ⟨by unfold winV; omega, by omega⟩]
             rfl)
          | trace_state
end Go.Proofs.Ytkfhablonnjgeaa
