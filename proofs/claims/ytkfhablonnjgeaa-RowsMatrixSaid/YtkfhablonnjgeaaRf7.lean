/- The contract of the document's own Lists. No condition. -/
import Derived.Test.YtkfhablonnjgeaaRf6
namespace Go.Proofs.Ytkfhablonnjgeaa
open Go.RowKit
set_option linter.unusedVariables false
set_option linter.unusedSimpArgs false
@[reducible] def l4C (x : Int × Int × Int × Int) : List Value := [.int .i64 x.1, .int .i64 x.2.1, .int .i64 x.2.2.1, .int .i64 x.2.2.2]
set_option maxRecDepth 100000 in
theorem fLists_calls (L : Ly) (s : Sh) (w : World) (hL : L.ok) (hs : s.ok) (h8 : L.k = 8 → L.a = 0) : Calls Try.prog 21 ⟨[.agg ⟨rlC L⟩, .agg ⟨shC s⟩]⟩ w fun e w' => e = .returned (.tuple #[.agg ⟨l4C (listsV L s).1⟩, .int .i64 (listsV L s).2]) ∧ Below w.heap.size w w' := by
  refine gc_enter (N := 70) Try.func21 rfl rfl rfl [(0, _), (1, _)] rfl ?_
  have hS := St.start w
  refine gc_seq fun K1 hK1 => ?_
  refine gc_region ?_
  refine gl_box hS rfl rfl rfl rfl rfl fun g2 w2 hS => ?_
  refine gl_box hS rfl rfl rfl rfl rfl fun g3 w3 hS => ?_
  refine gl_alloc el53 hS rfl rfl rfl rfl fun g4 w4 hS => ?_
  refine gl_op rfl rfl rfl (op_pure hT rfl) ?_
  refine gl_nil ?_
  refine hK1 _ _ ?_
  clear hK1; try clear K1
  refine gc_seq fun K2 hK2 => ?_
  refine gc_region ?_
  refine gl_op rfl rfl rfl (op_loadG 0 Try.underlying60 rfl el60 hS rfl rfl rfl rfl rfl) ?_
  refine gl_op rfl rfl rfl (op_loadG 1 Try.underlying27 rfl el27 hS rfl rfl rfl rfl rfl) ?_
  refine gl_callf rfl rfl rfl rfl Try.func37 rfl rfl rfl (fOut_calls L s _ hL hs h8) ?_
  rintro _ w13 ⟨rfl, hb13⟩
  refine ⟨_, rfl, ?_⟩
  have hS := hS.grown hb13
  refine gl_op rfl rfl rfl (op_pure hT rfl) ?_
  refine gl_op rfl rfl rfl (op_pure hT rfl) ?_
  refine gl_op rfl rfl rfl (op_pure hT rfl) ?_
  refine gl_alloc el27 hS rfl rfl rfl rfl fun g6 w6 hS => ?_
  refine gl_storeM 3 hS el27 rfl rfl rfl rfl rfl rfl rfl rfl rfl fun wambitref6_go_180 hS => ?_
  refine gl_op rfl rfl rfl (op_pure hT rfl) ?_
  refine gl_nil ?_
  refine hK2 _ _ ?_
  clear hK2; try clear K2
  refine gc_seq fun K3 hK3 => ?_
  refine gc_seq fun K4 hK4 => ?_
  refine gc_region ?_
  refine gl_op rfl rfl rfl (op_pure hT rfl) ?_
  refine gl_op rfl rfl rfl (op_pure hT rfl) ?_
  refine gl_nil ?_
  refine hK4 _ _ ?_
  clear hK4; try clear K4
  refine gc_cond rfl rfl (fun c17 => ?_) (fun c17 => ?_)
  · try simp only [decide_eq_true_eq, decide_eq_false_iff_not, Bool.not_eq_true', Bool.not_eq_false', Int.not_lt, Int.not_le, Nat.not_lt, Nat.not_le, Bool.true_eq, Bool.false_eq, reduceCtorEq] at c17
    refine gc_seq fun K5 hK5 => ?_
    refine gc_region ?_
    refine gl_op rfl rfl rfl (op_buildG rfl plan53 rfl rfl) ?_
    refine gl_op rfl rfl rfl (op_pure hT rfl) ?_
    refine gl_storeM 2 hS el53 rfl rfl rfl rfl rfl rfl rfl rfl rfl fun wambitref6_go_182 hS => ?_
    refine gl_op rfl rfl rfl (op_pure hT rfl) ?_
    refine gl_nil ?_
    refine hK5 _ _ ?_
    clear hK5; try clear K5
    refine gc_ret ?_
    try simp only [x_then_ret, x_block_ret]
    refine gk_res2 rfl (⟨_, rfl, run_loadVarB 2 Try.underlying53 rfl el53 hS rfl rfl rfl⟩) (rfl) ?_
    refine ⟨?_, hS.below⟩
    unfold listsV
    rw [if_pos c17]
    rfl
  · try simp only [decide_eq_true_eq, decide_eq_false_iff_not, Bool.not_eq_true', Bool.not_eq_false', Int.not_lt, Int.not_le, Nat.not_lt, Nat.not_le, Bool.true_eq, Bool.false_eq, reduceCtorEq] at c17
    obtain ⟨hf, hsz, _⟩ := outV_ok c17
    obtain ⟨_, _, hfo⟩ := fv_zero hf
    have hgs := sz_good hsz
    have hout := fld_out hfo
    have hl0 : listsV L s = (lensV L s, 0) := by unfold listsV; rw [if_neg (by simpa using c17)]
    refine gc_skip ?_
    refine hK3 _ _ ?_
    clear hK3; try clear K3
    refine gc_seq fun K6 hK6 => ?_
    refine gc_region ?_
    refine gl_op rfl rfl rfl (op_loadG 1 Try.underlying27 rfl el27 hS rfl rfl rfl rfl rfl) ?_
    refine gl_callf rfl rfl rfl rfl Try.func17 rfl rfl rfl (fSize_calls s _ hs) ?_
    rintro _ w22 ⟨rfl, hb22⟩
    refine ⟨_, rfl, ?_⟩
    have hS := hS.grown hb22
    refine gl_op rfl rfl rfl (op_pure hT rfl) ?_
    refine gl_op rfl rfl rfl (op_pure hT rfl) ?_
    refine gl_spell 23 (v := .int .i64 (s.c * s.h * s.w)) rfl (by show Value.int .i64 (sizeV s).1 = _; unfold sizeV; rw [if_neg hsz]) ?_
    refine gl_op rfl rfl rfl (op_pure hT rfl) ?_
    refine gl_op rfl rfl rfl (op_pure hT rfl) ?_
    refine gl_op rfl rfl rfl (op_pure hT rfl) ?_
    refine gl_nil ?_
    refine hK6 _ _ ?_
    clear hK6; try clear K6
    refine gc_seq fun K7 hK7 => ?_
    refine gc_seq fun K8 hK8 => ?_
    refine gc_region ?_
    refine gl_op rfl rfl rfl (op_fieldB 0 rfl Try.underlying60 rfl el3 rfl rfl) ?_
    refine gl_op rfl rfl rfl (op_loadB 0 hT hS rfl rfl rfl rfl rfl rfl) ?_
    refine gl_nil ?_
    refine hK8 _ _ ?_
    clear hK8; try clear K8
    refine gc_block ?_
    refine gc_seq fun K9 hK9 => ?_
    refine gc_region ?_
    refine gl_op rfl rfl rfl (op_pure hT rfl) ?_
    refine gl_op rfl rfl rfl (op_pure hT rfl) ?_
    refine gl_nil ?_
    refine hK9 _ _ ?_
    clear hK9; try clear K9
    refine gc_cond rfl rfl (fun c27 => ?_) (fun c27 => ?_)
    · try simp only [decide_eq_true_eq, decide_eq_false_iff_not, Bool.not_eq_true', Bool.not_eq_false', Int.not_lt, Int.not_le, Nat.not_lt, Nat.not_le, Bool.true_eq, Bool.false_eq, reduceCtorEq] at c27
      have hm1 := mul_bd0 (a := L.out) (b := s.c * s.h * s.w) (A := 256) (B := 256) (by omega) (by omega) (by omega) (by omega)
      refine gc_seq fun K10 hK10 => ?_
      refine gc_region ?_
      refine gl_op rfl rfl rfl (op_fieldB 1 rfl Try.underlying60 rfl el3 rfl rfl) ?_
      refine gl_op rfl rfl rfl (op_loadB 0 hT hS rfl rfl rfl rfl rfl rfl) ?_
      refine gl_op rfl rfl rfl (op_pure hT rfl) ?_
      first | refine gl_fit hT rfl rfl rfl rfl (by omega) ?_ | refine gl_op rfl rfl rfl (op_pure hT rfl) ?_
      refine gl_op rfl rfl rfl (op_fieldB 1 rfl Try.underlying60 rfl el3 rfl rfl) ?_
      refine gl_op rfl rfl rfl (op_loadB 0 hT hS rfl rfl rfl rfl rfl rfl) ?_
      refine gl_op rfl rfl rfl (op_buildG rfl plan53 rfl rfl) ?_
      refine gl_storeM 2 hS el53 rfl rfl rfl rfl rfl rfl rfl rfl rfl fun wambitref6_go_187 hS => ?_
      refine gl_op rfl rfl rfl (op_pure hT rfl) ?_
      refine gl_nil ?_
      refine hK10 _ _ ?_
      clear hK10; try clear K10
      refine gc_ret ?_
      try simp only [x_then_ret, x_block_ret]
      refine gk_res2 rfl (⟨_, rfl, run_loadVarB 2 Try.underlying53 rfl el53 hS rfl rfl rfl⟩) (rfl) ?_
      refine ⟨?_, hS.below⟩
      rw [hl0]
      first
        | (rw [show lensV L s = (L.out * (s.c * s.h * s.w), L.out, 0, 0) by unfold lensV; rw [if_pos (by omega)]]; rfl)
        | (rw [show lensV L s = (L.out * s.c * L.kh * L.kw, L.out, 0, 0) by unfold lensV; rw [if_neg (by omega), if_pos (by omega)]]; rfl)
        | (rw [show lensV L s = (s.c, s.c, 0, 0) by unfold lensV; rw [if_neg (by omega), if_neg (by omega), if_pos (by omega)]]; rfl)
        | (rw [show lensV L s = (0, 0, L.out * (s.c * s.h * s.w) / 2, L.out) by unfold lensV; rw [if_neg (by omega), if_neg (by omega), if_neg (by omega), if_pos (by omega)]]; rfl)
        | (rw [show lensV L s = (0, 0, 0, 0) by unfold lensV; rw [if_neg (by omega), if_neg (by omega), if_neg (by omega), if_neg (by omega)]]; rfl)
        | trace_state
    · try simp only [decide_eq_true_eq, decide_eq_false_iff_not, Bool.not_eq_true', Bool.not_eq_false', Int.not_lt, Int.not_le, Nat.not_lt, Nat.not_le, Bool.true_eq, Bool.false_eq, reduceCtorEq] at c27
      refine gc_seq fun K11 hK11 => ?_
      refine gc_region ?_
      refine gl_op rfl rfl rfl (op_pure hT rfl) ?_
      refine gl_op rfl rfl rfl (op_pure hT rfl) ?_
      refine gl_nil ?_
      refine hK11 _ _ ?_
      clear hK11; try clear K11
      refine gc_cond rfl rfl (fun c36 => ?_) (fun c36 => ?_)
      · try simp only [decide_eq_true_eq, decide_eq_false_iff_not, Bool.not_eq_true', Bool.not_eq_false', Int.not_lt, Int.not_le, Nat.not_lt, Nat.not_le, Bool.true_eq, Bool.false_eq, reduceCtorEq] at c36
        have hwn := fld_win hfo (.inl c36)
        have hm1 := mul_bd0 (a := L.out) (b := s.c) (A := 256) (B := 256) (by omega) (by omega) (by omega) (by omega)
        have hm2 := mul_bd0 (a := L.out * s.c) (b := L.kh) (A := 65536) (B := 16) (by omega) (by omega) (by omega) (by omega)
        have hm3 := mul_bd0 (a := L.out * s.c * L.kh) (b := L.kw) (A := 1048576) (B := 16) (by omega) (by omega) (by omega) (by omega)
        refine gc_seq fun K12 hK12 => ?_
        refine gc_region ?_
        refine gl_op rfl rfl rfl (op_fieldB 1 rfl Try.underlying60 rfl el3 rfl rfl) ?_
        refine gl_op rfl rfl rfl (op_loadB 0 hT hS rfl rfl rfl rfl rfl rfl) ?_
        refine gl_op rfl rfl rfl (op_fieldB 0 rfl Try.underlying27 rfl el3 rfl rfl) ?_
        refine gl_op rfl rfl rfl (op_loadB 1 hT hS rfl rfl rfl rfl rfl rfl) ?_
        first | refine gl_fit hT rfl rfl rfl rfl (by omega) ?_ | refine gl_op rfl rfl rfl (op_pure hT rfl) ?_
        refine gl_op rfl rfl rfl (op_fieldB 2 rfl Try.underlying60 rfl el3 rfl rfl) ?_
        refine gl_op rfl rfl rfl (op_loadB 0 hT hS rfl rfl rfl rfl rfl rfl) ?_
        first | refine gl_fit hT rfl rfl rfl rfl (by omega) ?_ | refine gl_op rfl rfl rfl (op_pure hT rfl) ?_
        refine gl_op rfl rfl rfl (op_fieldB 3 rfl Try.underlying60 rfl el3 rfl rfl) ?_
        refine gl_op rfl rfl rfl (op_loadB 0 hT hS rfl rfl rfl rfl rfl rfl) ?_
        first | refine gl_fit hT rfl rfl rfl rfl (by omega) ?_ | refine gl_op rfl rfl rfl (op_pure hT rfl) ?_
        refine gl_op rfl rfl rfl (op_fieldB 1 rfl Try.underlying60 rfl el3 rfl rfl) ?_
        refine gl_op rfl rfl rfl (op_loadB 0 hT hS rfl rfl rfl rfl rfl rfl) ?_
        refine gl_op rfl rfl rfl (op_buildG rfl plan53 rfl rfl) ?_
        refine gl_storeM 2 hS el53 rfl rfl rfl rfl rfl rfl rfl rfl rfl fun wambitref6_go_189 hS => ?_
        refine gl_op rfl rfl rfl (op_pure hT rfl) ?_
        refine gl_nil ?_
        refine hK12 _ _ ?_
        clear hK12; try clear K12
        refine gc_ret ?_
        try simp only [x_then_ret, x_block_ret]
        refine gk_res2 rfl (⟨_, rfl, run_loadVarB 2 Try.underlying53 rfl el53 hS rfl rfl rfl⟩) (rfl) ?_
        refine ⟨?_, hS.below⟩
        rw [hl0]
        first
          | (rw [show lensV L s = (L.out * (s.c * s.h * s.w), L.out, 0, 0) by unfold lensV; rw [if_pos (by omega)]]; rfl)
          | (rw [show lensV L s = (L.out * s.c * L.kh * L.kw, L.out, 0, 0) by unfold lensV; rw [if_neg (by omega), if_pos (by omega)]]; rfl)
          | (rw [show lensV L s = (s.c, s.c, 0, 0) by unfold lensV; rw [if_neg (by omega), if_neg (by omega), if_pos (by omega)]]; rfl)
          | (rw [show lensV L s = (0, 0, L.out * (s.c * s.h * s.w) / 2, L.out) by unfold lensV; rw [if_neg (by omega), if_neg (by omega), if_neg (by omega), if_pos (by omega)]]; rfl)
          | (rw [show lensV L s = (0, 0, 0, 0) by unfold lensV; rw [if_neg (by omega), if_neg (by omega), if_neg (by omega), if_neg (by omega)]]; rfl)
          | trace_state
      · try simp only [decide_eq_true_eq, decide_eq_false_iff_not, Bool.not_eq_true', Bool.not_eq_false', Int.not_lt, Int.not_le, Nat.not_lt, Nat.not_le, Bool.true_eq, Bool.false_eq, reduceCtorEq] at c36
        refine gc_seq fun K13 hK13 => ?_
        refine gc_region ?_
        refine gl_op rfl rfl rfl (op_pure hT rfl) ?_
        refine gl_op rfl rfl rfl (op_pure hT rfl) ?_
        refine gl_nil ?_
        refine hK13 _ _ ?_
        clear hK13; try clear K13
        refine gc_cond rfl rfl (fun c52 => ?_) (fun c52 => ?_)
        · try simp only [decide_eq_true_eq, decide_eq_false_iff_not, Bool.not_eq_true', Bool.not_eq_false', Int.not_lt, Int.not_le, Nat.not_lt, Nat.not_le, Bool.true_eq, Bool.false_eq, reduceCtorEq] at c52
          refine gc_seq fun K14 hK14 => ?_
          refine gc_region ?_
          refine gl_op rfl rfl rfl (op_fieldB 0 rfl Try.underlying27 rfl el3 rfl rfl) ?_
          refine gl_op rfl rfl rfl (op_loadB 1 hT hS rfl rfl rfl rfl rfl rfl) ?_
          refine gl_op rfl rfl rfl (op_fieldB 0 rfl Try.underlying27 rfl el3 rfl rfl) ?_
          refine gl_op rfl rfl rfl (op_loadB 1 hT hS rfl rfl rfl rfl rfl rfl) ?_
          refine gl_op rfl rfl rfl (op_buildG rfl plan53 rfl rfl) ?_
          refine gl_storeM 2 hS el53 rfl rfl rfl rfl rfl rfl rfl rfl rfl fun wambitref6_go_191 hS => ?_
          refine gl_op rfl rfl rfl (op_pure hT rfl) ?_
          refine gl_nil ?_
          refine hK14 _ _ ?_
          clear hK14; try clear K14
          refine gc_ret ?_
          try simp only [x_then_ret, x_block_ret]
          refine gk_res2 rfl (⟨_, rfl, run_loadVarB 2 Try.underlying53 rfl el53 hS rfl rfl rfl⟩) (rfl) ?_
          refine ⟨?_, hS.below⟩
          rw [hl0]
          first
            | (rw [show lensV L s = (L.out * (s.c * s.h * s.w), L.out, 0, 0) by unfold lensV; rw [if_pos (by omega)]]; rfl)
            | (rw [show lensV L s = (L.out * s.c * L.kh * L.kw, L.out, 0, 0) by unfold lensV; rw [if_neg (by omega), if_pos (by omega)]]; rfl)
            | (rw [show lensV L s = (s.c, s.c, 0, 0) by unfold lensV; rw [if_neg (by omega), if_neg (by omega), if_pos (by omega)]]; rfl)
            | (rw [show lensV L s = (0, 0, L.out * (s.c * s.h * s.w) / 2, L.out) by unfold lensV; rw [if_neg (by omega), if_neg (by omega), if_neg (by omega), if_pos (by omega)]]; rfl)
            | (rw [show lensV L s = (0, 0, 0, 0) by unfold lensV; rw [if_neg (by omega), if_neg (by omega), if_neg (by omega), if_neg (by omega)]]; rfl)
            | trace_state
        · try simp only [decide_eq_true_eq, decide_eq_false_iff_not, Bool.not_eq_true', Bool.not_eq_false', Int.not_lt, Int.not_le, Nat.not_lt, Nat.not_le, Bool.true_eq, Bool.false_eq, reduceCtorEq] at c52
          refine gc_seq fun K15 hK15 => ?_
          refine gc_region ?_
          refine gl_op rfl rfl rfl (op_pure hT rfl) ?_
          refine gl_op rfl rfl rfl (op_pure hT rfl) ?_
          refine gl_nil ?_
          refine hK15 _ _ ?_
          clear hK15; try clear K15
          refine gc_cond rfl rfl (fun c59 => ?_) (fun c59 => ?_)
          · try simp only [decide_eq_true_eq, decide_eq_false_iff_not, Bool.not_eq_true', Bool.not_eq_false', Int.not_lt, Int.not_le, Nat.not_lt, Nat.not_le, Bool.true_eq, Bool.false_eq, reduceCtorEq] at c59
            have hm1 := mul_bd0 (a := L.out) (b := s.c * s.h * s.w) (A := 256) (B := 256) (by omega) (by omega) (by omega) (by omega)
            refine gc_seq fun K16 hK16 => ?_
            refine gc_region ?_
            refine gl_op rfl rfl rfl (op_fieldB 1 rfl Try.underlying60 rfl el3 rfl rfl) ?_
            refine gl_op rfl rfl rfl (op_loadB 0 hT hS rfl rfl rfl rfl rfl rfl) ?_
            refine gl_op rfl rfl rfl (op_pure hT rfl) ?_
            first | refine gl_fit hT rfl rfl rfl rfl (by omega) ?_ | refine gl_op rfl rfl rfl (op_pure hT rfl) ?_
            first | refine gl_op rfl rfl rfl (op_quo hT rfl (by omega) (by omega)) ?_ | refine gl_op rfl rfl rfl (op_pure hT rfl) ?_ | refine gl_op rfl rfl rfl (op_quoS rfl rfl rfl (by omega) (by omega)) ?_
            refine gl_op rfl rfl rfl (op_fieldB 1 rfl Try.underlying60 rfl el3 rfl rfl) ?_
            refine gl_op rfl rfl rfl (op_loadB 0 hT hS rfl rfl rfl rfl rfl rfl) ?_
            refine gl_op rfl rfl rfl (op_buildG rfl plan53 rfl rfl) ?_
            refine gl_storeM 2 hS el53 rfl rfl rfl rfl rfl rfl rfl rfl rfl fun wambitref6_go_193 hS => ?_
            refine gl_op rfl rfl rfl (op_pure hT rfl) ?_
            refine gl_nil ?_
            refine hK16 _ _ ?_
            clear hK16; try clear K16
            refine gc_ret ?_
            try simp only [x_then_ret, x_block_ret]
            refine gk_res2 rfl (⟨_, rfl, run_loadVarB 2 Try.underlying53 rfl el53 hS rfl rfl rfl⟩) (rfl) ?_
            refine ⟨?_, hS.below⟩
            rw [hl0]
            first
              | (rw [show lensV L s = (L.out * (s.c * s.h * s.w), L.out, 0, 0) by unfold lensV; rw [if_pos (by omega)]]; rfl)
              | (rw [show lensV L s = (L.out * s.c * L.kh * L.kw, L.out, 0, 0) by unfold lensV; rw [if_neg (by omega), if_pos (by omega)]]; rfl)
              | (rw [show lensV L s = (s.c, s.c, 0, 0) by unfold lensV; rw [if_neg (by omega), if_neg (by omega), if_pos (by omega)]]; rfl)
              | (rw [show lensV L s = (0, 0, L.out * (s.c * s.h * s.w) / 2, L.out) by unfold lensV; rw [if_neg (by omega), if_neg (by omega), if_neg (by omega), if_pos (by omega)]]; rfl)
              | (rw [show lensV L s = (0, 0, 0, 0) by unfold lensV; rw [if_neg (by omega), if_neg (by omega), if_neg (by omega), if_neg (by omega)]]; rfl)
              | trace_state
          · try simp only [decide_eq_true_eq, decide_eq_false_iff_not, Bool.not_eq_true', Bool.not_eq_false', Int.not_lt, Int.not_le, Nat.not_lt, Nat.not_le, Bool.true_eq, Bool.false_eq, reduceCtorEq] at c59
            refine gc_skip ?_
            refine hK7 _ _ ?_
            clear hK7; try clear K7
            refine gc_seq fun K17 hK17 => ?_
            refine gc_region ?_
            refine gl_op rfl rfl rfl (op_buildG rfl plan53 rfl rfl) ?_
            refine gl_storeM 2 hS el53 rfl rfl rfl rfl rfl rfl rfl rfl rfl fun wambitref6_go_195 hS => ?_
            refine gl_op rfl rfl rfl (op_pure hT rfl) ?_
            refine gl_nil ?_
            refine hK17 _ _ ?_
            clear hK17; try clear K17
            refine gc_ret ?_
            try simp only [x_then_ret, x_block_ret]
            refine gk_res2 rfl (⟨_, rfl, run_loadVarB 2 Try.underlying53 rfl el53 hS rfl rfl rfl⟩) (rfl) ?_
            refine ⟨?_, hS.below⟩
            rw [hl0]
            first
              | (rw [show lensV L s = (L.out * (s.c * s.h * s.w), L.out, 0, 0) by unfold lensV; rw [if_pos (by omega)]]; rfl)
              | (rw [show lensV L s = (L.out * s.c * L.kh * L.kw, L.out, 0, 0) by unfold lensV; rw [if_neg (by omega), if_pos (by omega)]]; rfl)
              | (rw [show lensV L s = (s.c, s.c, 0, 0) by unfold lensV; rw [if_neg (by omega), if_neg (by omega), if_pos (by omega)]]; rfl)
              | (rw [show lensV L s = (0, 0, L.out * (s.c * s.h * s.w) / 2, L.out) by unfold lensV; rw [if_neg (by omega), if_neg (by omega), if_neg (by omega), if_pos (by omega)]]; rfl)
              | (rw [show lensV L s = (0, 0, 0, 0) by unfold lensV; rw [if_neg (by omega), if_neg (by omega), if_neg (by omega), if_neg (by omega)]]; rfl)
              | trace_state
end Go.Proofs.Ytkfhablonnjgeaa
