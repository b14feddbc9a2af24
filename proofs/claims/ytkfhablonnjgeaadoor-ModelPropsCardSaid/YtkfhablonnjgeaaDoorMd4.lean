/- Contracts of package model: layers, networks without names. No condition. -/
import Derived.Test.YtkfhablonnjgeaaDoorMd3
namespace Go.Proofs.YtkfhablonnjgeaaDoor
open Go.RowKit
set_option linter.unusedVariables false
set_option linter.unusedSimpArgs false
/-- A layer's lists, as they lie in memory. -/
structure LyM (w : World) (ok : Nat → Prop) (x : Lx) : Prop where
  okL : x.L.ok
  rW : RdE w ok fV x.L.W.1 x.lw
  nW : x.L.W.2.1 = x.lw.length
  rB : RdE w ok fV x.L.B.1 x.lb
  nB : x.L.B.2.1 = x.lb.length
  rZ : RdE w ok cV x.L.Z.1 x.lz
  nZ : x.L.Z.2.1 = x.lz.length
  rZB : RdE w ok cV x.L.ZB.1 x.lzb
  nZB : x.L.ZB.2.1 = x.lzb.length
  fW : ∀ u ∈ x.lw, u < 18446744073709551616
  fB : ∀ u ∈ x.lb, u < 18446744073709551616
  fZ : ∀ u ∈ x.lz, u.1 < 18446744073709551616 ∧ u.2 < 18446744073709551616
  fZB : ∀ u ∈ x.lzb, u.1 < 18446744073709551616 ∧ u.2 < 18446744073709551616
  lW : x.lw.length ≤ 17592186044416
  lB : x.lb.length ≤ 17592186044416
  lZ : x.lz.length ≤ 17592186044416
  lZB : x.lzb.length ≤ 17592186044416
theorem LyM.old {w w' : World} {ok : Nat → Prop} {x : Lx} {L0 : List It} (h : LyM w ok x) (hS : St w.heap.size w w' L0) : LyM w' ok x :=
  ⟨h.okL, h.rW.old hS, h.nW, h.rB.old hS, h.nB, h.rZ.old hS, h.nZ, h.rZB.old hS, h.nZB, h.fW, h.fB, h.fZ, h.fZB, h.lW, h.lB, h.lZ, h.lZB⟩
theorem whole_f {L : Ly} {s : Sh} {a b c d : Nat} (h : ¬ ((a : Int) = (listsV L s).1.1 ∧ (b : Int) = (listsV L s).1.2.1 ∧ (c : Int) = (listsV L s).1.2.2.1 ∧ (d : Int) = (listsV L s).1.2.2.2)) : wholeV L s a b c d = false := by
  unfold wholeV
  rw [← Bool.not_eq_true]
  intro hh
  simp only [Bool.and_eq_true, decide_eq_true_eq] at hh
  exact h ⟨hh.1.1.1, hh.1.1.2, hh.1.2, hh.2⟩
theorem whole_t {L : Ly} {s : Sh} {a b c d : Nat} (h1 : (a : Int) = (listsV L s).1.1) (h2 : (b : Int) = (listsV L s).1.2.1) (h3 : (c : Int) = (listsV L s).1.2.2.1) (h4 : (d : Int) = (listsV L s).1.2.2.2) : wholeV L s a b c d = true := by
  unfold wholeV; simp [h1, h2, h3, h4]
set_option maxRecDepth 100000 in
theorem layer_calls (x : Lx) (s : Sh) (w : World) (hs : s.ok) {ok : Nat → Prop} (D : LyM w ok x) :
    Calls Tryd.prog 44 ⟨[.agg ⟨lyC x.L⟩, .agg ⟨shC s⟩]⟩ w fun e w' => e = .returned (.int .i64 (layV x s)) ∧ Below w.heap.size w w' := by
  have hnW := D.nW
  have hnB := D.nB
  have hnZ := D.nZ
  have hnZB := D.nZB
  refine gc_enter (N := 73) Tryd.func44 rfl rfl rfl [(0, _), (1, _)] rfl ?_
  have hS := St.start w
  refine gc_seq fun K1 hK1 => ?_
  refine gc_region ?_
  refine gl_box hS rfl rfl rfl rfl rfl fun g2 w2 hS => ?_
  refine gl_box hS rfl rfl rfl rfl rfl fun g3 w3 hS => ?_
  refine gl_op rfl rfl rfl (op_pure hT rfl) ?_
  refine gl_nil ?_
  refine hK1 _ _ ?_
  clear hK1; try clear K1
  refine gc_seq fun K2 hK2 => ?_
  refine gc_region ?_
  refine gl_op rfl rfl rfl (op_loadG 0 Tryd.underlying49 rfl el49 hS rfl rfl rfl rfl rfl) ?_
  refine gl_op rfl rfl rfl (op_loadG 1 Tryd.underlying42 rfl el42 hS rfl rfl rfl rfl rfl) ?_
  refine gl_callf rfl rfl rfl rfl Tryd.func51 rfl rfl rfl (mLists_calls x.L s _ D.okL hs) ?_
  rintro _ w13 ⟨rfl, hb13⟩
  refine ⟨_, rfl, ?_⟩
  have hS := hS.grown hb13
  refine gl_op rfl rfl rfl (op_pure hT rfl) ?_
  refine gl_op rfl rfl rfl (op_pure hT rfl) ?_
  refine gl_op rfl rfl rfl (op_pure hT rfl) ?_
  refine gl_op rfl rfl rfl (op_pure hT rfl) ?_
  refine gl_op rfl rfl rfl (op_pure hT rfl) ?_
  refine gl_op rfl rfl rfl (op_pure hT rfl) ?_
  refine gl_op rfl rfl rfl (op_pure hT rfl) ?_
  refine gl_op rfl rfl rfl (op_pure hT rfl) ?_
  refine gl_op rfl rfl rfl (op_pure hT rfl) ?_
  refine gl_op rfl rfl rfl (op_pure hT rfl) ?_
  refine gl_op rfl rfl rfl (op_pure hT rfl) ?_
  refine gl_nil ?_
  refine hK2 _ _ ?_
  clear hK2; try clear K2
  refine gc_seq fun K3 hK3 => ?_
  refine gc_block ?_
  refine gc_seq fun K4 hK4 => ?_
  refine gc_region ?_
  refine gl_op rfl rfl rfl (op_pure hT rfl) ?_
  refine gl_op rfl rfl rfl (op_pure hT rfl) ?_
  refine gl_op rfl rfl rfl (op_pure hT rfl) ?_
  refine gl_nil ?_
  refine hK4 _ _ ?_
  clear hK4; try clear K4
  refine gc_cond rfl rfl (fun c19 => ?_) (fun c19 => ?_)
  · try simp only [decide_eq_true_eq, decide_eq_false_iff_not, Bool.not_eq_true', Bool.not_eq_false', Int.not_lt, Int.not_le, Nat.not_lt, Nat.not_le, Bool.true_eq, Bool.false_eq, reduceCtorEq] at c19
    refine gc_seq fun K5 hK5 => ?_
    refine gc_region ?_
    refine gl_op rfl rfl rfl (op_pure hT rfl) ?_
    refine gl_op rfl rfl rfl (op_pure hT rfl) ?_
    refine gl_nil ?_
    refine hK5 _ _ ?_
    clear hK5; try clear K5
    refine gc_ret ?_
    try simp only [x_then_ret, x_block_ret]
    refine gk_ret1 rfl rfl ?_
    exact ⟨by unfold layV; rw [if_pos c19]; rfl, hS.below⟩
  · try simp only [decide_eq_true_eq, decide_eq_false_iff_not, Bool.not_eq_true', Bool.not_eq_false', Int.not_lt, Int.not_le, Nat.not_lt, Nat.not_le, Bool.true_eq, Bool.false_eq, reduceCtorEq] at c19
    have c19' : ¬ (listsV x.L s).2 ≠ 0 := by rw [c19]; simp
    refine gc_seq fun K6 hK6 => ?_
    refine gc_region ?_
    refine gl_op rfl rfl rfl (op_fieldB 10 rfl Tryd.underlying49 rfl el24 rfl rfl) ?_
    refine gl_op rfl rfl rfl (op_loadB 0 hT hS rfl rfl rfl rfl rfl rfl) ?_
    refine gl_op rfl rfl rfl (op_pure hT rfl) ?_
    refine gl_op rfl rfl rfl (op_pure hT rfl) ?_
    refine gl_op rfl rfl rfl (op_pure hT rfl) ?_
    refine gl_op rfl rfl rfl (op_pure hT rfl) ?_
    refine gl_split (t := 29) rfl (fun c29 => ?_) (fun c29 => ?_)
    · try simp only [decide_eq_true_eq, decide_eq_false_iff_not, Bool.not_eq_true', Bool.not_eq_false', Int.not_lt, Int.not_le, Nat.not_lt, Nat.not_le, Bool.true_eq, Bool.false_eq, reduceCtorEq] at c29
      refine gl_pass rfl rfl rfl rfl rfl rfl ?_
      refine gl_pass rfl rfl rfl rfl rfl rfl ?_
      refine gl_pass rfl rfl rfl rfl rfl rfl ?_
      refine gl_pass rfl rfl rfl rfl rfl rfl ?_
      refine gl_pass rfl rfl rfl rfl rfl rfl ?_
      refine gl_op rfl rfl rfl (op_pure hT rfl) ?_
      refine gl_op rfl rfl rfl (op_pure hT rfl) ?_
      refine gl_pass rfl rfl rfl rfl rfl rfl ?_
      refine gl_pass rfl rfl rfl rfl rfl rfl ?_
      refine gl_pass rfl rfl rfl rfl rfl rfl ?_
      refine gl_pass rfl rfl rfl rfl rfl rfl ?_
      refine gl_pass rfl rfl rfl rfl rfl rfl ?_
      refine gl_op rfl rfl rfl (op_pure hT rfl) ?_
      refine gl_op rfl rfl rfl (op_pure hT rfl) ?_
      refine gl_pass rfl rfl rfl rfl rfl rfl ?_
      refine gl_pass rfl rfl rfl rfl rfl rfl ?_
      refine gl_pass rfl rfl rfl rfl rfl rfl ?_
      refine gl_pass rfl rfl rfl rfl rfl rfl ?_
      refine gl_pass rfl rfl rfl rfl rfl rfl ?_
      refine gl_op rfl rfl rfl (op_pure hT rfl) ?_
      refine gl_op rfl rfl rfl (op_pure hT rfl) ?_
      refine gl_nil ?_
      refine hK6 _ _ ?_
      clear hK6; try clear K6
      refine gc_cond_t rfl ?_
      refine gc_seq fun K7 hK7 => ?_
      refine gc_region ?_
      refine gl_op rfl rfl rfl (op_pure hT rfl) ?_
      refine gl_nil ?_
      refine hK7 _ _ ?_
      clear hK7; try clear K7
      refine gc_ret ?_
      try simp only [x_then_ret, x_block_ret]
      refine gk_ret1 rfl rfl ?_
      refine ⟨?_, hS.below⟩
      unfold layV
      rw [if_neg c19']
      first
        | (rw [if_pos (whole_f (by omega))]; done)
        | (rw [if_neg (by rw [whole_t (by omega) (by omega) (by omega) (by omega)]; simp), if_pos (by simp_all)]; done)
        | (rw [if_neg (by rw [whole_t (by omega) (by omega) (by omega) (by omega)]; simp), if_neg (by simp_all)]; done)
        | trace_state
    · try simp only [decide_eq_true_eq, decide_eq_false_iff_not, Bool.not_eq_true', Bool.not_eq_false', Int.not_lt, Int.not_le, Nat.not_lt, Nat.not_le, Bool.true_eq, Bool.false_eq, reduceCtorEq] at c29
      refine gl_un rfl rfl rfl rfl ?_
      refine gl_op rfl rfl rfl (op_fieldB 11 rfl Tryd.underlying49 rfl el24 rfl rfl) ?_
      refine gl_un rfl rfl rfl rfl ?_
      refine gl_op rfl rfl rfl (op_loadB 0 hT hS rfl rfl rfl rfl rfl rfl) ?_
      refine gl_un rfl rfl rfl rfl ?_
      refine gl_op rfl rfl rfl (op_pure hT rfl) ?_
      refine gl_un rfl rfl rfl rfl ?_
      refine gl_op rfl rfl rfl (op_pure hT rfl) ?_
      refine gl_un rfl rfl rfl rfl ?_
      refine gl_op rfl rfl rfl (op_pure hT rfl) ?_
      refine gl_op rfl rfl rfl (op_pure hT rfl) ?_
      refine gl_op rfl rfl rfl (op_pure hT rfl) ?_
      refine gl_split (t := 36) rfl (fun c36 => ?_) (fun c36 => ?_)
      · try simp only [decide_eq_true_eq, decide_eq_false_iff_not, Bool.not_eq_true', Bool.not_eq_false', Int.not_lt, Int.not_le, Nat.not_lt, Nat.not_le, Bool.true_eq, Bool.false_eq, reduceCtorEq] at c36
        refine gl_pass rfl rfl rfl rfl rfl rfl ?_
        refine gl_pass rfl rfl rfl rfl rfl rfl ?_
        refine gl_pass rfl rfl rfl rfl rfl rfl ?_
        refine gl_pass rfl rfl rfl rfl rfl rfl ?_
        refine gl_pass rfl rfl rfl rfl rfl rfl ?_
        refine gl_op rfl rfl rfl (op_pure hT rfl) ?_
        refine gl_op rfl rfl rfl (op_pure hT rfl) ?_
        refine gl_pass rfl rfl rfl rfl rfl rfl ?_
        refine gl_pass rfl rfl rfl rfl rfl rfl ?_
        refine gl_pass rfl rfl rfl rfl rfl rfl ?_
        refine gl_pass rfl rfl rfl rfl rfl rfl ?_
        refine gl_pass rfl rfl rfl rfl rfl rfl ?_
        refine gl_op rfl rfl rfl (op_pure hT rfl) ?_
        refine gl_op rfl rfl rfl (op_pure hT rfl) ?_
        refine gl_nil ?_
        refine hK6 _ _ ?_
        clear hK6; try clear K6
        refine gc_cond_t rfl ?_
        refine gc_seq fun K8 hK8 => ?_
        refine gc_region ?_
        refine gl_op rfl rfl rfl (op_pure hT rfl) ?_
        refine gl_nil ?_
        refine hK8 _ _ ?_
        clear hK8; try clear K8
        refine gc_ret ?_
        try simp only [x_then_ret, x_block_ret]
        refine gk_ret1 rfl rfl ?_
        refine ⟨?_, hS.below⟩
        unfold layV
        rw [if_neg c19']
        first
          | (rw [if_pos (whole_f (by omega))]; done)
          | (rw [if_neg (by rw [whole_t (by omega) (by omega) (by omega) (by omega)]; simp), if_pos (by simp_all)]; done)
          | (rw [if_neg (by rw [whole_t (by omega) (by omega) (by omega) (by omega)]; simp), if_neg (by simp_all)]; done)
          | trace_state
      · try simp only [decide_eq_true_eq, decide_eq_false_iff_not, Bool.not_eq_true', Bool.not_eq_false', Int.not_lt, Int.not_le, Nat.not_lt, Nat.not_le, Bool.true_eq, Bool.false_eq, reduceCtorEq] at c36
        refine gl_un rfl rfl rfl rfl ?_
        refine gl_op rfl rfl rfl (op_fieldB 12 rfl Tryd.underlying49 rfl el47 rfl rfl) ?_
        refine gl_un rfl rfl rfl rfl ?_
        refine gl_op rfl rfl rfl (op_loadB 0 hT hS rfl rfl rfl rfl rfl rfl) ?_
        refine gl_un rfl rfl rfl rfl ?_
        refine gl_op rfl rfl rfl (op_pure hT rfl) ?_
        refine gl_un rfl rfl rfl rfl ?_
        refine gl_op rfl rfl rfl (op_pure hT rfl) ?_
        refine gl_un rfl rfl rfl rfl ?_
        refine gl_op rfl rfl rfl (op_pure hT rfl) ?_
        refine gl_op rfl rfl rfl (op_pure hT rfl) ?_
        refine gl_op rfl rfl rfl (op_pure hT rfl) ?_
        refine gl_split (t := 43) rfl (fun c43 => ?_) (fun c43 => ?_)
        · try simp only [decide_eq_true_eq, decide_eq_false_iff_not, Bool.not_eq_true', Bool.not_eq_false', Int.not_lt, Int.not_le, Nat.not_lt, Nat.not_le, Bool.true_eq, Bool.false_eq, reduceCtorEq] at c43
          refine gl_pass rfl rfl rfl rfl rfl rfl ?_
          refine gl_pass rfl rfl rfl rfl rfl rfl ?_
          refine gl_pass rfl rfl rfl rfl rfl rfl ?_
          refine gl_pass rfl rfl rfl rfl rfl rfl ?_
          refine gl_pass rfl rfl rfl rfl rfl rfl ?_
          refine gl_op rfl rfl rfl (op_pure hT rfl) ?_
          refine gl_op rfl rfl rfl (op_pure hT rfl) ?_
          refine gl_nil ?_
          refine hK6 _ _ ?_
          clear hK6; try clear K6
          refine gc_cond_t rfl ?_
          refine gc_seq fun K9 hK9 => ?_
          refine gc_region ?_
          refine gl_op rfl rfl rfl (op_pure hT rfl) ?_
          refine gl_nil ?_
          refine hK9 _ _ ?_
          clear hK9; try clear K9
          refine gc_ret ?_
          try simp only [x_then_ret, x_block_ret]
          refine gk_ret1 rfl rfl ?_
          refine ⟨?_, hS.below⟩
          unfold layV
          rw [if_neg c19']
          first
            | (rw [if_pos (whole_f (by omega))]; done)
            | (rw [if_neg (by rw [whole_t (by omega) (by omega) (by omega) (by omega)]; simp), if_pos (by simp_all)]; done)
            | (rw [if_neg (by rw [whole_t (by omega) (by omega) (by omega) (by omega)]; simp), if_neg (by simp_all)]; done)
            | trace_state
        · try simp only [decide_eq_true_eq, decide_eq_false_iff_not, Bool.not_eq_true', Bool.not_eq_false', Int.not_lt, Int.not_le, Nat.not_lt, Nat.not_le, Bool.true_eq, Bool.false_eq, reduceCtorEq] at c43
          refine gl_un rfl rfl rfl rfl ?_
          refine gl_op rfl rfl rfl (op_fieldB 13 rfl Tryd.underlying49 rfl el47 rfl rfl) ?_
          refine gl_un rfl rfl rfl rfl ?_
          refine gl_op rfl rfl rfl (op_loadB 0 hT hS rfl rfl rfl rfl rfl rfl) ?_
          refine gl_un rfl rfl rfl rfl ?_
          refine gl_op rfl rfl rfl (op_pure hT rfl) ?_
          refine gl_un rfl rfl rfl rfl ?_
          refine gl_op rfl rfl rfl (op_pure hT rfl) ?_
          refine gl_un rfl rfl rfl rfl ?_
          refine gl_op rfl rfl rfl (op_pure hT rfl) ?_
          refine gl_op rfl rfl rfl (op_pure hT rfl) ?_
          refine gl_op rfl rfl rfl (op_pure hT rfl) ?_
          refine gl_nil ?_
          refine hK6 _ _ ?_
          clear hK6; try clear K6
          refine gc_cond rfl rfl (fun c23 => ?_) (fun c23 => ?_)
          · try simp only [decide_eq_true_eq, decide_eq_false_iff_not, Bool.not_eq_true', Bool.not_eq_false', Int.not_lt, Int.not_le, Nat.not_lt, Nat.not_le, Bool.true_eq, Bool.false_eq, reduceCtorEq] at c23
            refine gc_seq fun K10 hK10 => ?_
            refine gc_region ?_
            refine gl_op rfl rfl rfl (op_pure hT rfl) ?_
            refine gl_nil ?_
            refine hK10 _ _ ?_
            clear hK10; try clear K10
            refine gc_ret ?_
            try simp only [x_then_ret, x_block_ret]
            refine gk_ret1 rfl rfl ?_
            refine ⟨?_, hS.below⟩
            unfold layV
            rw [if_neg c19']
            first
              | (rw [if_pos (whole_f (by omega))]; done)
              | (rw [if_neg (by rw [whole_t (by omega) (by omega) (by omega) (by omega)]; simp), if_pos (by simp_all)]; done)
              | (rw [if_neg (by rw [whole_t (by omega) (by omega) (by omega) (by omega)]; simp), if_neg (by simp_all)]; done)
              | trace_state
          · try simp only [decide_eq_true_eq, decide_eq_false_iff_not, Bool.not_eq_true', Bool.not_eq_false', Int.not_lt, Int.not_le, Nat.not_lt, Nat.not_le, Bool.true_eq, Bool.false_eq, reduceCtorEq] at c23
            refine gc_seq fun K11 hK11 => ?_
            refine gc_region ?_
            refine gl_op rfl rfl rfl (op_fieldB 10 rfl Tryd.underlying49 rfl el24 rfl rfl) ?_
            refine gl_op rfl rfl rfl (op_loadB 0 hT hS rfl rfl rfl rfl rfl rfl) ?_
            refine gl_callf rfl rfl rfl rfl Tryd.func40 rfl rfl rfl (numbers_calls _ _ _ x.lw _ (D.rW.old hS) D.nW D.lW D.fW) ?_
            rintro _ _ ⟨rfl, n53, rfl⟩
            refine ⟨_, rfl, ?_⟩
            have hS := hS.dr n53
            refine gl_op rfl rfl rfl (op_pure hT rfl) ?_
            refine gl_op rfl rfl rfl (op_pure hT rfl) ?_
            refine gl_split (t := 55) rfl (fun c55 => ?_) (fun c55 => ?_)
            · try simp only [decide_eq_true_eq, decide_eq_false_iff_not, Bool.not_eq_true', Bool.not_eq_false', Int.not_lt, Int.not_le, Nat.not_lt, Nat.not_le, Bool.true_eq, Bool.false_eq, reduceCtorEq] at c55
              refine gl_pass rfl rfl rfl rfl rfl rfl ?_
              refine gl_pass rfl rfl rfl rfl rfl rfl ?_
              refine gl_pass rfl rfl rfl rfl rfl rfl ?_
              refine gl_pass rfl rfl rfl rfl rfl rfl ?_
              refine gl_op rfl rfl rfl (op_pure hT rfl) ?_
              refine gl_op rfl rfl rfl (op_pure hT rfl) ?_
              refine gl_pass rfl rfl rfl rfl rfl rfl ?_
              refine gl_pass rfl rfl rfl rfl rfl rfl ?_
              refine gl_pass rfl rfl rfl rfl rfl rfl ?_
              refine gl_pass rfl rfl rfl rfl rfl rfl ?_
              refine gl_op rfl rfl rfl (op_pure hT rfl) ?_
              refine gl_op rfl rfl rfl (op_pure hT rfl) ?_
              refine gl_pass rfl rfl rfl rfl rfl rfl ?_
              refine gl_pass rfl rfl rfl rfl rfl rfl ?_
              refine gl_pass rfl rfl rfl rfl rfl rfl ?_
              refine gl_pass rfl rfl rfl rfl rfl rfl ?_
              refine gl_op rfl rfl rfl (op_pure hT rfl) ?_
              refine gl_op rfl rfl rfl (op_pure hT rfl) ?_
              refine gl_nil ?_
              refine hK11 _ _ ?_
              clear hK11; try clear K11
              refine gc_cond_t rfl ?_
              refine gc_seq fun K12 hK12 => ?_
              refine gc_region ?_
              refine gl_op rfl rfl rfl (op_pure hT rfl) ?_
              refine gl_nil ?_
              refine hK12 _ _ ?_
              clear hK12; try clear K12
              refine gc_ret ?_
              try simp only [x_then_ret, x_block_ret]
              refine gk_ret1 rfl rfl ?_
              refine ⟨?_, hS.below⟩
              unfold layV
              rw [if_neg c19']
              first
                | (rw [if_pos (whole_f (by omega))]; done)
                | (rw [if_neg (by rw [whole_t (by omega) (by omega) (by omega) (by omega)]; simp), if_pos (by simp_all)]; done)
                | (rw [if_neg (by rw [whole_t (by omega) (by omega) (by omega) (by omega)]; simp), if_neg (by simp_all)]; done)
                | trace_state
            · try simp only [decide_eq_true_eq, decide_eq_false_iff_not, Bool.not_eq_true', Bool.not_eq_false', Int.not_lt, Int.not_le, Nat.not_lt, Nat.not_le, Bool.true_eq, Bool.false_eq, reduceCtorEq] at c55
              refine gl_un rfl rfl rfl rfl ?_
              refine gl_op rfl rfl rfl (op_fieldB 11 rfl Tryd.underlying49 rfl el24 rfl rfl) ?_
              refine gl_un rfl rfl rfl rfl ?_
              refine gl_op rfl rfl rfl (op_loadB 0 hT hS rfl rfl rfl rfl rfl rfl) ?_
              refine gl_un rfl rfl rfl rfl ?_
              refine gl_callf rfl rfl rfl rfl Tryd.func40 rfl rfl rfl (numbers_calls _ _ _ x.lb _ (D.rB.old hS) D.nB D.lB D.fB) ?_
              rintro _ _ ⟨rfl, n58, rfl⟩
              refine ⟨_, rfl, ?_⟩
              have hS := hS.dr n58
              refine gl_un rfl rfl rfl rfl ?_
              refine gl_op rfl rfl rfl (op_pure hT rfl) ?_
              refine gl_op rfl rfl rfl (op_pure hT rfl) ?_
              refine gl_op rfl rfl rfl (op_pure hT rfl) ?_
              refine gl_split (t := 61) rfl (fun c61 => ?_) (fun c61 => ?_)
              · try simp only [decide_eq_true_eq, decide_eq_false_iff_not, Bool.not_eq_true', Bool.not_eq_false', Int.not_lt, Int.not_le, Nat.not_lt, Nat.not_le, Bool.true_eq, Bool.false_eq, reduceCtorEq] at c61
                refine gl_pass rfl rfl rfl rfl rfl rfl ?_
                refine gl_pass rfl rfl rfl rfl rfl rfl ?_
                refine gl_pass rfl rfl rfl rfl rfl rfl ?_
                refine gl_pass rfl rfl rfl rfl rfl rfl ?_
                refine gl_op rfl rfl rfl (op_pure hT rfl) ?_
                refine gl_op rfl rfl rfl (op_pure hT rfl) ?_
                refine gl_pass rfl rfl rfl rfl rfl rfl ?_
                refine gl_pass rfl rfl rfl rfl rfl rfl ?_
                refine gl_pass rfl rfl rfl rfl rfl rfl ?_
                refine gl_pass rfl rfl rfl rfl rfl rfl ?_
                refine gl_op rfl rfl rfl (op_pure hT rfl) ?_
                refine gl_op rfl rfl rfl (op_pure hT rfl) ?_
                refine gl_nil ?_
                refine hK11 _ _ ?_
                clear hK11; try clear K11
                refine gc_cond_t rfl ?_
                refine gc_seq fun K13 hK13 => ?_
                refine gc_region ?_
                refine gl_op rfl rfl rfl (op_pure hT rfl) ?_
                refine gl_nil ?_
                refine hK13 _ _ ?_
                clear hK13; try clear K13
                refine gc_ret ?_
                try simp only [x_then_ret, x_block_ret]
                refine gk_ret1 rfl rfl ?_
                refine ⟨?_, hS.below⟩
                unfold layV
                rw [if_neg c19']
                first
                  | (rw [if_pos (whole_f (by omega))]; done)
                  | (rw [if_neg (by rw [whole_t (by omega) (by omega) (by omega) (by omega)]; simp), if_pos (by simp_all)]; done)
                  | (rw [if_neg (by rw [whole_t (by omega) (by omega) (by omega) (by omega)]; simp), if_neg (by simp_all)]; done)
                  | trace_state
              · try simp only [decide_eq_true_eq, decide_eq_false_iff_not, Bool.not_eq_true', Bool.not_eq_false', Int.not_lt, Int.not_le, Nat.not_lt, Nat.not_le, Bool.true_eq, Bool.false_eq, reduceCtorEq] at c61
                refine gl_un rfl rfl rfl rfl ?_
                refine gl_op rfl rfl rfl (op_fieldB 12 rfl Tryd.underlying49 rfl el47 rfl rfl) ?_
                refine gl_un rfl rfl rfl rfl ?_
                refine gl_op rfl rfl rfl (op_loadB 0 hT hS rfl rfl rfl rfl rfl rfl) ?_
                refine gl_un rfl rfl rfl rfl ?_
                refine gl_callf rfl rfl rfl rfl Tryd.func52 rfl rfl rfl (parts_calls _ _ _ x.lz _ (D.rZ.old hS) D.nZ D.lZ D.fZ) ?_
                rintro _ _ ⟨rfl, n64, rfl⟩
                refine ⟨_, rfl, ?_⟩
                have hS := hS.dr n64
                refine gl_un rfl rfl rfl rfl ?_
                refine gl_op rfl rfl rfl (op_pure hT rfl) ?_
                refine gl_op rfl rfl rfl (op_pure hT rfl) ?_
                refine gl_op rfl rfl rfl (op_pure hT rfl) ?_
                refine gl_split (t := 67) rfl (fun c67 => ?_) (fun c67 => ?_)
                · try simp only [decide_eq_true_eq, decide_eq_false_iff_not, Bool.not_eq_true', Bool.not_eq_false', Int.not_lt, Int.not_le, Nat.not_lt, Nat.not_le, Bool.true_eq, Bool.false_eq, reduceCtorEq] at c67
                  refine gl_pass rfl rfl rfl rfl rfl rfl ?_
                  refine gl_pass rfl rfl rfl rfl rfl rfl ?_
                  refine gl_pass rfl rfl rfl rfl rfl rfl ?_
                  refine gl_pass rfl rfl rfl rfl rfl rfl ?_
                  refine gl_op rfl rfl rfl (op_pure hT rfl) ?_
                  refine gl_op rfl rfl rfl (op_pure hT rfl) ?_
                  refine gl_nil ?_
                  refine hK11 _ _ ?_
                  clear hK11; try clear K11
                  refine gc_cond_t rfl ?_
                  refine gc_seq fun K14 hK14 => ?_
                  refine gc_region ?_
                  refine gl_op rfl rfl rfl (op_pure hT rfl) ?_
                  refine gl_nil ?_
                  refine hK14 _ _ ?_
                  clear hK14; try clear K14
                  refine gc_ret ?_
                  try simp only [x_then_ret, x_block_ret]
                  refine gk_ret1 rfl rfl ?_
                  refine ⟨?_, hS.below⟩
                  unfold layV
                  rw [if_neg c19']
                  first
                    | (rw [if_pos (whole_f (by omega))]; done)
                    | (rw [if_neg (by rw [whole_t (by omega) (by omega) (by omega) (by omega)]; simp), if_pos (by simp_all)]; done)
                    | (rw [if_neg (by rw [whole_t (by omega) (by omega) (by omega) (by omega)]; simp), if_neg (by simp_all)]; done)
                    | trace_state
                · try simp only [decide_eq_true_eq, decide_eq_false_iff_not, Bool.not_eq_true', Bool.not_eq_false', Int.not_lt, Int.not_le, Nat.not_lt, Nat.not_le, Bool.true_eq, Bool.false_eq, reduceCtorEq] at c67
                  refine gl_un rfl rfl rfl rfl ?_
                  refine gl_op rfl rfl rfl (op_fieldB 13 rfl Tryd.underlying49 rfl el47 rfl rfl) ?_
                  refine gl_un rfl rfl rfl rfl ?_
                  refine gl_op rfl rfl rfl (op_loadB 0 hT hS rfl rfl rfl rfl rfl rfl) ?_
                  refine gl_un rfl rfl rfl rfl ?_
                  refine gl_callf rfl rfl rfl rfl Tryd.func52 rfl rfl rfl (parts_calls _ _ _ x.lzb _ (D.rZB.old hS) D.nZB D.lZB D.fZB) ?_
                  rintro _ _ ⟨rfl, n70, rfl⟩
                  refine ⟨_, rfl, ?_⟩
                  have hS := hS.dr n70
                  refine gl_un rfl rfl rfl rfl ?_
                  refine gl_op rfl rfl rfl (op_pure hT rfl) ?_
                  refine gl_op rfl rfl rfl (op_pure hT rfl) ?_
                  refine gl_op rfl rfl rfl (op_pure hT rfl) ?_
                  refine gl_nil ?_
                  refine hK11 _ _ ?_
                  clear hK11; try clear K11
                  refine gc_cond rfl rfl (fun c50 => ?_) (fun c50 => ?_)
                  · try simp only [decide_eq_true_eq, decide_eq_false_iff_not, Bool.not_eq_true', Bool.not_eq_false', Int.not_lt, Int.not_le, Nat.not_lt, Nat.not_le, Bool.true_eq, Bool.false_eq, reduceCtorEq] at c50
                    refine gc_seq fun K15 hK15 => ?_
                    refine gc_region ?_
                    refine gl_op rfl rfl rfl (op_pure hT rfl) ?_
                    refine gl_nil ?_
                    refine hK15 _ _ ?_
                    clear hK15; try clear K15
                    refine gc_ret ?_
                    try simp only [x_then_ret, x_block_ret]
                    refine gk_ret1 rfl rfl ?_
                    refine ⟨?_, hS.below⟩
                    unfold layV
                    rw [if_neg c19']
                    first
                      | (rw [if_pos (whole_f (by omega))]; done)
                      | (rw [if_neg (by rw [whole_t (by omega) (by omega) (by omega) (by omega)]; simp), if_pos (by simp_all)]; done)
                      | (rw [if_neg (by rw [whole_t (by omega) (by omega) (by omega) (by omega)]; simp), if_neg (by simp_all)]; done)
                      | trace_state
                  · try simp only [decide_eq_true_eq, decide_eq_false_iff_not, Bool.not_eq_true', Bool.not_eq_false', Int.not_lt, Int.not_le, Nat.not_lt, Nat.not_le, Bool.true_eq, Bool.false_eq, reduceCtorEq] at c50
                    refine gc_skip ?_
                    refine hK3 _ _ ?_
                    clear hK3; try clear K3
                    refine gc_seq fun K16 hK16 => ?_
                    refine gc_region ?_
                    refine gl_op rfl rfl rfl (op_pure hT rfl) ?_
                    refine gl_nil ?_
                    refine hK16 _ _ ?_
                    clear hK16; try clear K16
                    refine gc_ret ?_
                    try simp only [x_then_ret, x_block_ret]
                    refine gk_ret1 rfl rfl ?_
                    refine ⟨?_, hS.below⟩
                    unfold layV
                    rw [if_neg c19']
                    first
                      | (rw [if_pos (whole_f (by omega))]; done)
                      | (rw [if_neg (by rw [whole_t (by omega) (by omega) (by omega) (by omega)]; simp), if_pos (by simp_all)]; done)
                      | (rw [if_neg (by rw [whole_t (by omega) (by omega) (by omega) (by omega)]; simp), if_neg (by simp_all)]; done)
                      | trace_state
theorem weights_calls (x : Lx) (w : World) {ok : Nat → Prop} (D : LyM w ok x) :
    Calls Tryd.prog 33 ⟨[.agg ⟨lyC x.L⟩]⟩ w fun e w' => e = .returned (.int .i64 (wtsV x)) ∧ Below w.heap.size w w' := by
  have hnW := D.nW
  have hnB := D.nB
  have hnZ := D.nZ
  have hnZB := D.nZB
  have hlW := D.lW
  have hlB := D.lB
  have hlZ := D.lZ
  have hlZB := D.lZB
  refine gc_enter (N := 19) Tryd.func33 rfl rfl rfl [(0, _)] rfl ?_
  have hS := St.start w
  refine gc_seq fun K1 hK1 => ?_
  refine gc_region ?_
  refine gl_box hS rfl rfl rfl rfl rfl fun g1 w1 hS => ?_
  refine gl_op rfl rfl rfl (op_pure hT rfl) ?_
  refine gl_nil ?_
  refine hK1 _ _ ?_
  clear hK1; try clear K1
  refine gc_seq fun K2 hK2 => ?_
  refine gc_region ?_
  refine gl_op rfl rfl rfl (op_fieldB 10 rfl Tryd.underlying49 rfl el24 rfl rfl) ?_
  refine gl_op rfl rfl rfl (op_loadB 0 hT hS rfl rfl rfl rfl rfl rfl) ?_
  refine gl_op rfl rfl rfl (op_pure hT rfl) ?_
  refine gl_op rfl rfl rfl (op_fieldB 11 rfl Tryd.underlying49 rfl el24 rfl rfl) ?_
  refine gl_op rfl rfl rfl (op_loadB 0 hT hS rfl rfl rfl rfl rfl rfl) ?_
  refine gl_op rfl rfl rfl (op_pure hT rfl) ?_
  first | refine gl_fit hT rfl rfl rfl rfl (by omega) ?_ | refine gl_op rfl rfl rfl (op_pure hT rfl) ?_
  refine gl_op rfl rfl rfl (op_fieldB 12 rfl Tryd.underlying49 rfl el47 rfl rfl) ?_
  refine gl_op rfl rfl rfl (op_loadB 0 hT hS rfl rfl rfl rfl rfl rfl) ?_
  refine gl_op rfl rfl rfl (op_pure hT rfl) ?_
  refine gl_op rfl rfl rfl (op_fieldB 13 rfl Tryd.underlying49 rfl el47 rfl rfl) ?_
  refine gl_op rfl rfl rfl (op_loadB 0 hT hS rfl rfl rfl rfl rfl rfl) ?_
  refine gl_op rfl rfl rfl (op_pure hT rfl) ?_
  first | refine gl_fit hT rfl rfl rfl rfl (by omega) ?_ | refine gl_op rfl rfl rfl (op_pure hT rfl) ?_
  first | refine gl_fit hT rfl rfl rfl rfl (by omega) ?_ | refine gl_op rfl rfl rfl (op_pure hT rfl) ?_
  first | refine gl_fit hT rfl rfl rfl rfl (by omega) ?_ | refine gl_op rfl rfl rfl (op_pure hT rfl) ?_
  refine gl_op rfl rfl rfl (op_pure hT rfl) ?_
  refine gl_nil ?_
  refine hK2 _ _ ?_
  clear hK2; try clear K2
  refine gc_ret ?_
  try simp only [x_then_ret, x_block_ret]
  refine gk_ret1 rfl rfl ?_
  refine ⟨?_, hS.below⟩
  unfold wtsV
  rw [hnW, hnB, hnZ, hnZB]
theorem names0_calls (n : Int) (w : World) : Calls Tryd.prog 45 ⟨[.slice none 0 0, .int .i64 n]⟩ w fun e w' => e = .returned (.int .i64 0) ∧ Below w.heap.size w w' := by
  refine gc_enter (N := 39) Tryd.func45 rfl rfl rfl [(0, _), (1, _)] rfl ?_
  have hS := St.start w
  refine gc_seq fun K1 hK1 => ?_
  refine gc_region ?_
  refine gl_op rfl rfl rfl (op_pure hT rfl) ?_
  refine gl_nil ?_
  refine hK1 _ _ ?_
  clear hK1; try clear K1
  refine gc_seq fun K2 hK2 => ?_
  refine gc_seq fun K3 hK3 => ?_
  refine gc_region ?_
  refine gl_op rfl rfl rfl (op_pure hT rfl) ?_
  refine gl_op rfl rfl rfl (op_pure hT rfl) ?_
  refine gl_op rfl rfl rfl (op_pure hT rfl) ?_
  refine gl_op rfl rfl rfl (op_pure hT rfl) ?_
  refine gl_pass rfl rfl rfl rfl rfl rfl ?_
  refine gl_pass rfl rfl rfl rfl rfl rfl ?_
  refine gl_pass rfl rfl rfl rfl rfl rfl ?_
  refine gl_pass rfl rfl rfl rfl rfl rfl ?_
  refine gl_op rfl rfl rfl (op_pure hT rfl) ?_
  refine gl_nil ?_
  refine hK3 _ _ ?_
  clear hK3; try clear K3
  refine gc_cond_f rfl ?_
  refine gc_skip ?_
  refine hK2 _ _ ?_
  clear hK2; try clear K2
  refine gc_seq fun K4 hK4 => ?_
  refine gc_region ?_
  refine gl_map hS rfl rfl rfl rfl fun g17 w17 hS => ?_
  refine gl_op rfl rfl rfl (op_pure hT rfl) ?_
  refine gl_nil ?_
  refine hK4 _ _ ?_
  clear hK4; try clear K4
  refine gc_seq fun K5 hK5 => ?_
  refine gc_seq fun K6 hK6 => ?_
  refine gc_region ?_
  refine gl_op rfl rfl rfl (op_pure hT rfl) ?_
  refine gl_op rfl rfl rfl (op_pure hT rfl) ?_
  refine gl_op rfl rfl rfl (op_pure hT rfl) ?_
  refine gl_nil ?_
  refine hK6 _ _ ?_
  clear hK6; try clear K6
  refine gc_block ?_
  refine gc_loop (fun k a w' => Fr 39 a [(19, .int .i64 0), (20, .int .i64 0)] ∧ k = 1 ∧ Below w.heap.size w w') 1 ?_ ?_ ?_
  · intro a ha; exact ⟨ha.sub ⟨rfl, rfl, trivial⟩, rfl, hS.below⟩
  · rintro a w ⟨_, h2, _⟩; omega
  rintro k a w1 ⟨hF, hk, hS2⟩
  refine gc_of hF ?_
  refine gc_seq fun K7 hK7 => ?_
  refine gc_region ?_
  refine gl_op rfl rfl rfl (op_pure hT rfl) ?_
  refine gl_nil ?_
  refine hK7 _ _ ?_
  clear hK7; try clear K7
  refine gc_seq fun K8 hK8 => ?_
  refine gc_cond_f rfl ?_
  refine gc_exit ?_
  refine hK5 _ _ ?_
  clear hK5; try clear K5
  refine gc_seq fun K9 hK9 => ?_
  refine gc_region ?_
  refine gl_op rfl rfl rfl (op_pure hT rfl) ?_
  refine gl_nil ?_
  refine hK9 _ _ ?_
  clear hK9; try clear K9
  refine gc_ret ?_
  try simp only [x_then_ret, x_block_ret]
  refine gk_ret1 rfl rfl ?_
  exact ⟨rfl, hS2⟩
end Go.Proofs.YtkfhablonnjgeaaDoor
