/- The contract of rows.Window. No condition. -/
import Derived.Test.YtkfhablonnjgeaaRo4
namespace Go.Proofs.Ytkfhablonnjgeaa
open Go.RowKit
set_option linter.unusedVariables false
set_option linter.unusedSimpArgs false
theorem rdE_nV {w : World} {ok : Nat → Prop} {A : Option Addr} {n : Nat} {l : List Int} (h : Rd w ok A n 1 (l.map nV)) (hl : l.length = n) : RdE w ok nV A l := by subst hl; exact h
/-- A window's places, and the error. -/
def wndV (L : Ly) (s : Sh) (i : Int) : List Int × Int :=
  if (outV L s).2 ≠ 0 then ([], (outV L s).2) else if ¬ winV L.k then ([], 61) else
  if i < 0 ∨ (outS L s).c * (outS L s).h * (outS L s).w ≤ i then ([], 1) else ((winV_ L s (outS L s) i).map fun e => placeV s e.at_, 0)
set_option maxHeartbeats 4000000 in
set_option maxRecDepth 100000 in
theorem wnd_calls (L : Ly) (s : Sh) (i : Int) (w : World) (hL : L.ok) (hs : s.ok) (hi64 : i64 i) (R : List Int × Int) (hR : R = wndV L s i) :
    Calls Try.prog 19 ⟨[.agg ⟨lyC L⟩, .agg ⟨shC s⟩, .int .i64 i]⟩ w fun e w' => ∃ A1 c1 K, e = .returned (.tuple #[.slice A1 R.1.length c1, .int .i64 R.2]) ∧ RdE w' K nV A1 R.1 ∧ St w.heap.size w w' [.keep K w'] := by
  refine gc_enter (N := 72) Try.func19 rfl rfl rfl [(0, _), (1, _), (2, _)] rfl ?_
  have hS := St.start w
  refine gc_seq fun K1 hK1 => ?_
  refine gc_region ?_
  refine gl_box hS rfl rfl rfl rfl rfl fun g3 w3 hS => ?_
  refine gl_box hS rfl rfl rfl rfl rfl fun g4 w4 hS => ?_
  refine gl_op rfl rfl rfl (op_pure hT rfl) ?_
  refine gl_op rfl rfl rfl (op_pure hT rfl) ?_
  refine gl_nil ?_
  refine hK1 _ _ ?_
  clear hK1; try clear K1
  refine gc_seq fun K2 hK2 => ?_
  refine gc_region ?_
  refine gl_op rfl rfl rfl (op_loadG 0 Try.underlying32 rfl el32 hS rfl rfl rfl rfl rfl) ?_
  refine gl_op rfl rfl rfl (op_loadG 1 Try.underlying27 rfl el27 hS rfl rfl rfl rfl rfl) ?_
  refine gl_callf rfl rfl rfl rfl Try.func24 rfl rfl rfl (mOut_calls L s _ hL hs) ?_
  rintro _ w16 ⟨rfl, hb16⟩
  refine ⟨_, rfl, ?_⟩
  have hS := hS.grown hb16
  refine gl_op rfl rfl rfl (op_pure hT rfl) ?_
  refine gl_op rfl rfl rfl (op_pure hT rfl) ?_
  refine gl_op rfl rfl rfl (op_pure hT rfl) ?_
  refine gl_alloc el27 hS rfl rfl rfl rfl fun g8 w8 hS => ?_
  refine gl_storeM 2 hS el27 rfl rfl rfl rfl rfl rfl rfl rfl rfl fun wrows_go_131 hS => ?_
  refine gl_op rfl rfl rfl (op_pure hT rfl) ?_
  refine gl_nil ?_
  refine hK2 _ _ ?_
  clear hK2; try clear K2
  refine gc_cut (fun a w' => Fr 72 a [(2, .int .i64 i), (3, .pointer (some ⟨g3, 0, none⟩)), (4, .pointer (some ⟨g4, 0, none⟩)), (8, .pointer (some ⟨g8, 0, none⟩))] ∧ (winV L.k ∧ 0 ≤ i ∧ i < (outS L s).c * (outS L s).h * (outS L s).w ∧ (outV L s).2 = 0) ∧ St w.heap.size w w' [.blk g3 32 (lyC L), .blk g4 27 (shC s), .blk g8 27 (shC (outS L s))]) ?_ ?_
  · skip
    refine gc_block ?_
    refine gc_seq fun K3 hK3 => ?_
    refine gc_region ?_
    refine gl_op rfl rfl rfl (op_pure hT rfl) ?_
    refine gl_op rfl rfl rfl (op_pure hT rfl) ?_
    refine gl_op rfl rfl rfl (op_pure hT rfl) ?_
    refine gl_nil ?_
    refine hK3 _ _ ?_
    clear hK3; try clear K3
    refine gc_cond rfl rfl (fun c19 => ?_) (fun c19 => ?_)
    · try simp only [decide_eq_true_eq, decide_eq_false_iff_not, Bool.not_eq_true', Bool.not_eq_false', Int.not_lt, Int.not_le, Nat.not_lt, Nat.not_le, Bool.true_eq, Bool.false_eq, reduceCtorEq] at c19
      refine gc_seq fun K4 hK4 => ?_
      refine gc_region ?_
      refine gl_op rfl rfl rfl (op_pure hT rfl) ?_
      refine gl_op rfl rfl rfl (op_pure hT rfl) ?_
      refine gl_op rfl rfl rfl (op_pure hT rfl) ?_
      refine gl_nil ?_
      refine hK4 _ _ ?_
      clear hK4; try clear K4
      refine gc_ret ?_
      try simp only [x_then_ret, x_block_ret]
      refine gk_ret2 rfl rfl rfl ?_
      have hr : R = ([], (outV L s).2) := by rw [hR]; unfold wndV; rw [if_pos c19]
      rw [hr]
      exact ⟨none, 0, _, rfl, RdE.nil _ _, (hS.sub (List.nil_sublist _)).keep0⟩
    · try simp only [decide_eq_true_eq, decide_eq_false_iff_not, Bool.not_eq_true', Bool.not_eq_false', Int.not_lt, Int.not_le, Nat.not_lt, Nat.not_le, Bool.true_eq, Bool.false_eq, reduceCtorEq] at c19
      obtain ⟨hf0, hsz, hnw, hn6, hso, hoe⟩ := outV_ok c19
      obtain ⟨hk1, hk2, hfo⟩ := fv_zero hf0
      have hgs := sz_good hsz
      have hgo := sz_good hso
      have hS : St w.heap.size w _ [.blk g3 32 (lyC L), .blk g4 27 (shC s), .blk g8 27 (shC (outV L s).1)] := hS
      rw [hoe] at hS
      have c19' : ¬ (outV L s).2 ≠ 0 := by rw [c19]; simp
      have b1 := mul_bd (a := (outS L s).c) (b := (outS L s).h) (A := 256) (B := 256) (by omega) (by omega) (by omega) (by omega)
      refine gc_seq fun K5 hK5 => ?_
      refine gc_region ?_
      refine gl_op rfl rfl rfl (op_fieldB 0 rfl Try.underlying32 rfl el3 rfl rfl) ?_
      refine gl_op rfl rfl rfl (op_loadB 0 hT hS rfl rfl rfl rfl rfl rfl) ?_
      refine gl_op rfl rfl rfl (op_pure hT rfl) ?_
      refine gl_op rfl rfl rfl (op_pure hT rfl) ?_
      refine gl_split (t := 27) rfl (fun c27 => ?_) (fun c27 => ?_)
      · try simp only [decide_eq_true_eq, decide_eq_false_iff_not, Bool.not_eq_true', Bool.not_eq_false', Int.not_lt, Int.not_le, Nat.not_lt, Nat.not_le, Bool.true_eq, Bool.false_eq, reduceCtorEq] at c27
        refine gl_un rfl rfl rfl rfl ?_
        refine gl_op rfl rfl rfl (op_fieldB 0 rfl Try.underlying32 rfl el3 rfl rfl) ?_
        refine gl_un rfl rfl rfl rfl ?_
        refine gl_op rfl rfl rfl (op_loadB 0 hT hS rfl rfl rfl rfl rfl rfl) ?_
        refine gl_un rfl rfl rfl rfl ?_
        refine gl_op rfl rfl rfl (op_pure hT rfl) ?_
        refine gl_op rfl rfl rfl (op_pure hT rfl) ?_
        refine gl_op rfl rfl rfl (op_pure hT rfl) ?_
        refine gl_split (t := 32) rfl (fun c32 => ?_) (fun c32 => ?_)
        · try simp only [decide_eq_true_eq, decide_eq_false_iff_not, Bool.not_eq_true', Bool.not_eq_false', Int.not_lt, Int.not_le, Nat.not_lt, Nat.not_le, Bool.true_eq, Bool.false_eq, reduceCtorEq] at c32
          refine gl_un rfl rfl rfl rfl ?_
          refine gl_op rfl rfl rfl (op_fieldB 0 rfl Try.underlying32 rfl el3 rfl rfl) ?_
          refine gl_un rfl rfl rfl rfl ?_
          refine gl_op rfl rfl rfl (op_loadB 0 hT hS rfl rfl rfl rfl rfl rfl) ?_
          refine gl_un rfl rfl rfl rfl ?_
          refine gl_op rfl rfl rfl (op_pure hT rfl) ?_
          refine gl_op rfl rfl rfl (op_pure hT rfl) ?_
          refine gl_op rfl rfl rfl (op_pure hT rfl) ?_
          refine gl_nil ?_
          refine hK5 _ _ ?_
          clear hK5; try clear K5
          refine gc_cond rfl rfl (fun c23 => ?_) (fun c23 => ?_)
          · try simp only [decide_eq_true_eq, decide_eq_false_iff_not, Bool.not_eq_true', Bool.not_eq_false', Int.not_lt, Int.not_le, Nat.not_lt, Nat.not_le, Bool.true_eq, Bool.false_eq, reduceCtorEq] at c23
            refine gc_seq fun K6 hK6 => ?_
            refine gc_region ?_
            refine gl_op rfl rfl rfl (op_pure hT rfl) ?_
            refine gl_op rfl rfl rfl (op_pure hT rfl) ?_
            refine gl_nil ?_
            refine hK6 _ _ ?_
            clear hK6; try clear K6
            refine gc_ret ?_
            try simp only [x_then_ret, x_block_ret]
            refine gk_ret2 rfl rfl rfl ?_
            first
              | (rw [hR1, ← hws]
                 exact ⟨A1, _, _, by rw [List.length_map], rdE_nV (hS.rowRd (i := 4) rfl fun b hb => ⟨_, by simp, hb⟩) (List.length_map _), hS.keepAll⟩)
              | (have hr : R = ([], 61) := by rw [hR]; unfold wndV; rw [if_neg c19', if_pos (by unfold winV; omega)]
                 rw [hr]
                 exact ⟨none, 0, _, rfl, RdE.nil _ _, (hS.sub (List.nil_sublist _)).keep0⟩)
              | (have hr : R = ([], 1) := by rw [hR]; unfold wndV; rw [if_neg c19', if_neg (fun h => h (by unfold winV; omega)), if_pos (by omega)]
                 rw [hr]
                 exact ⟨none, 0, _, rfl, RdE.nil _ _, (hS.sub (List.nil_sublist _)).keep0⟩)
              | trace_state
          · try simp only [decide_eq_true_eq, decide_eq_false_iff_not, Bool.not_eq_true', Bool.not_eq_false', Int.not_lt, Int.not_le, Nat.not_lt, Nat.not_le, Bool.true_eq, Bool.false_eq, reduceCtorEq] at c23
            refine gc_seq fun K7 hK7 => ?_
            refine gc_region ?_
            refine gl_op rfl rfl rfl (op_pure hT rfl) ?_
            refine gl_op rfl rfl rfl (op_pure hT rfl) ?_
            refine gl_op rfl rfl rfl (op_pure hT rfl) ?_
            refine gl_split (t := 40) rfl (fun c40 => ?_) (fun c40 => ?_)
            · try simp only [decide_eq_true_eq, decide_eq_false_iff_not, Bool.not_eq_true', Bool.not_eq_false', Int.not_lt, Int.not_le, Nat.not_lt, Nat.not_le, Bool.true_eq, Bool.false_eq, reduceCtorEq] at c40
              refine gl_pass rfl rfl rfl rfl rfl rfl ?_
              refine gl_pass rfl rfl rfl rfl rfl rfl ?_
              refine gl_pass rfl rfl rfl rfl rfl rfl ?_
              refine gl_pass rfl rfl rfl rfl rfl rfl ?_
              refine gl_pass rfl rfl rfl rfl rfl rfl ?_
              refine gl_pass rfl rfl rfl rfl rfl rfl ?_
              refine gl_pass rfl rfl rfl rfl rfl rfl ?_
              refine gl_pass rfl rfl rfl rfl rfl rfl ?_
              refine gl_pass rfl rfl rfl rfl rfl rfl ?_
              refine gl_pass rfl rfl rfl rfl rfl rfl ?_
              refine gl_op rfl rfl rfl (op_pure hT rfl) ?_
              refine gl_op rfl rfl rfl (op_pure hT rfl) ?_
              refine gl_nil ?_
              refine hK7 _ _ ?_
              clear hK7; try clear K7
              refine gc_cond_t rfl ?_
              refine gc_seq fun K8 hK8 => ?_
              refine gc_region ?_
              refine gl_op rfl rfl rfl (op_pure hT rfl) ?_
              refine gl_op rfl rfl rfl (op_pure hT rfl) ?_
              refine gl_nil ?_
              refine hK8 _ _ ?_
              clear hK8; try clear K8
              refine gc_ret ?_
              try simp only [x_then_ret, x_block_ret]
              refine gk_ret2 rfl rfl rfl ?_
              first
                | (rw [hR1, ← hws]
                   exact ⟨A1, _, _, by rw [List.length_map], rdE_nV (hS.rowRd (i := 4) rfl fun b hb => ⟨_, by simp, hb⟩) (List.length_map _), hS.keepAll⟩)
                | (have hr : R = ([], 61) := by rw [hR]; unfold wndV; rw [if_neg c19', if_pos (by unfold winV; omega)]
                   rw [hr]
                   exact ⟨none, 0, _, rfl, RdE.nil _ _, (hS.sub (List.nil_sublist _)).keep0⟩)
                | (have hr : R = ([], 1) := by rw [hR]; unfold wndV; rw [if_neg c19', if_neg (fun h => h (by unfold winV; omega)), if_pos (by omega)]
                   rw [hr]
                   exact ⟨none, 0, _, rfl, RdE.nil _ _, (hS.sub (List.nil_sublist _)).keep0⟩)
                | trace_state
            · try simp only [decide_eq_true_eq, decide_eq_false_iff_not, Bool.not_eq_true', Bool.not_eq_false', Int.not_lt, Int.not_le, Nat.not_lt, Nat.not_le, Bool.true_eq, Bool.false_eq, reduceCtorEq] at c40
              refine gl_un rfl rfl rfl rfl ?_
              refine gl_op rfl rfl rfl (op_pure hT rfl) ?_
              refine gl_un rfl rfl rfl rfl ?_
              refine gl_op rfl rfl rfl (op_fieldB 0 rfl Try.underlying27 rfl el3 rfl rfl) ?_
              refine gl_un rfl rfl rfl rfl ?_
              refine gl_op rfl rfl rfl (op_loadB 2 hT hS rfl rfl rfl rfl rfl rfl) ?_
              refine gl_un rfl rfl rfl rfl ?_
              refine gl_op rfl rfl rfl (op_fieldB 1 rfl Try.underlying27 rfl el3 rfl rfl) ?_
              refine gl_un rfl rfl rfl rfl ?_
              refine gl_op rfl rfl rfl (op_loadB 2 hT hS rfl rfl rfl rfl rfl rfl) ?_
              refine gl_un rfl rfl rfl rfl ?_
              first | refine gl_fit hT rfl rfl rfl rfl (by omega) ?_ | refine gl_op rfl rfl rfl (op_pure hT rfl) ?_
              refine gl_un rfl rfl rfl rfl ?_
              refine gl_op rfl rfl rfl (op_fieldB 2 rfl Try.underlying27 rfl el3 rfl rfl) ?_
              refine gl_un rfl rfl rfl rfl ?_
              refine gl_op rfl rfl rfl (op_loadB 2 hT hS rfl rfl rfl rfl rfl rfl) ?_
              refine gl_un rfl rfl rfl rfl ?_
              first | refine gl_fit hT rfl rfl rfl rfl (by omega) ?_ | refine gl_op rfl rfl rfl (op_pure hT rfl) ?_
              refine gl_un rfl rfl rfl rfl ?_
              refine gl_op rfl rfl rfl (op_pure hT rfl) ?_
              refine gl_op rfl rfl rfl (op_pure hT rfl) ?_
              refine gl_op rfl rfl rfl (op_pure hT rfl) ?_
              refine gl_nil ?_
              refine hK7 _ _ ?_
              clear hK7; try clear K7
              refine gc_cond rfl rfl (fun c37 => ?_) (fun c37 => ?_)
              · try simp only [decide_eq_true_eq, decide_eq_false_iff_not, Bool.not_eq_true', Bool.not_eq_false', Int.not_lt, Int.not_le, Nat.not_lt, Nat.not_le, Bool.true_eq, Bool.false_eq, reduceCtorEq] at c37
                refine gc_seq fun K9 hK9 => ?_
                refine gc_region ?_
                refine gl_op rfl rfl rfl (op_pure hT rfl) ?_
                refine gl_op rfl rfl rfl (op_pure hT rfl) ?_
                refine gl_nil ?_
                refine hK9 _ _ ?_
                clear hK9; try clear K9
                refine gc_ret ?_
                try simp only [x_then_ret, x_block_ret]
                refine gk_ret2 rfl rfl rfl ?_
                first
                  | (rw [hR1, ← hws]
                     exact ⟨A1, _, _, by rw [List.length_map], rdE_nV (hS.rowRd (i := 4) rfl fun b hb => ⟨_, by simp, hb⟩) (List.length_map _), hS.keepAll⟩)
                  | (have hr : R = ([], 61) := by rw [hR]; unfold wndV; rw [if_neg c19', if_pos (by unfold winV; omega)]
                     rw [hr]
                     exact ⟨none, 0, _, rfl, RdE.nil _ _, (hS.sub (List.nil_sublist _)).keep0⟩)
                  | (have hr : R = ([], 1) := by rw [hR]; unfold wndV; rw [if_neg c19', if_neg (fun h => h (by unfold winV; omega)), if_pos (by omega)]
                     rw [hr]
                     exact ⟨none, 0, _, rfl, RdE.nil _ _, (hS.sub (List.nil_sublist _)).keep0⟩)
                  | trace_state
              · try simp only [decide_eq_true_eq, decide_eq_false_iff_not, Bool.not_eq_true', Bool.not_eq_false', Int.not_lt, Int.not_le, Nat.not_lt, Nat.not_le, Bool.true_eq, Bool.false_eq, reduceCtorEq] at c37
                refine gc_skip ?_
                intro a ha
                exact ⟨ha.sub ⟨rfl, rfl, rfl, rfl, trivial⟩, ⟨by unfold winV; omega, by omega, by omega, c19⟩, hS⟩
        · try simp only [decide_eq_true_eq, decide_eq_false_iff_not, Bool.not_eq_true', Bool.not_eq_false', Int.not_lt, Int.not_le, Nat.not_lt, Nat.not_le, Bool.true_eq, Bool.false_eq, reduceCtorEq] at c32
          refine gl_pass rfl rfl rfl rfl rfl rfl ?_
          refine gl_pass rfl rfl rfl rfl rfl rfl ?_
          refine gl_pass rfl rfl rfl rfl rfl rfl ?_
          refine gl_op rfl rfl rfl (op_pure hT rfl) ?_
          refine gl_op rfl rfl rfl (op_pure hT rfl) ?_
          refine gl_nil ?_
          refine hK5 _ _ ?_
          clear hK5; try clear K5
          refine gc_cond_f rfl ?_
          refine gc_seq fun K10 hK10 => ?_
          refine gc_region ?_
          refine gl_op rfl rfl rfl (op_pure hT rfl) ?_
          refine gl_op rfl rfl rfl (op_pure hT rfl) ?_
          refine gl_op rfl rfl rfl (op_pure hT rfl) ?_
          refine gl_split (t := 40) rfl (fun c40 => ?_) (fun c40 => ?_)
          · try simp only [decide_eq_true_eq, decide_eq_false_iff_not, Bool.not_eq_true', Bool.not_eq_false', Int.not_lt, Int.not_le, Nat.not_lt, Nat.not_le, Bool.true_eq, Bool.false_eq, reduceCtorEq] at c40
            refine gl_pass rfl rfl rfl rfl rfl rfl ?_
            refine gl_pass rfl rfl rfl rfl rfl rfl ?_
            refine gl_pass rfl rfl rfl rfl rfl rfl ?_
            refine gl_pass rfl rfl rfl rfl rfl rfl ?_
            refine gl_pass rfl rfl rfl rfl rfl rfl ?_
            refine gl_pass rfl rfl rfl rfl rfl rfl ?_
            refine gl_pass rfl rfl rfl rfl rfl rfl ?_
            refine gl_pass rfl rfl rfl rfl rfl rfl ?_
            refine gl_pass rfl rfl rfl rfl rfl rfl ?_
            refine gl_pass rfl rfl rfl rfl rfl rfl ?_
            refine gl_op rfl rfl rfl (op_pure hT rfl) ?_
            refine gl_op rfl rfl rfl (op_pure hT rfl) ?_
            refine gl_nil ?_
            refine hK10 _ _ ?_
            clear hK10; try clear K10
            refine gc_cond_t rfl ?_
            refine gc_seq fun K11 hK11 => ?_
            refine gc_region ?_
            refine gl_op rfl rfl rfl (op_pure hT rfl) ?_
            refine gl_op rfl rfl rfl (op_pure hT rfl) ?_
            refine gl_nil ?_
            refine hK11 _ _ ?_
            clear hK11; try clear K11
            refine gc_ret ?_
            try simp only [x_then_ret, x_block_ret]
            refine gk_ret2 rfl rfl rfl ?_
            first
              | (rw [hR1, ← hws]
                 exact ⟨A1, _, _, by rw [List.length_map], rdE_nV (hS.rowRd (i := 4) rfl fun b hb => ⟨_, by simp, hb⟩) (List.length_map _), hS.keepAll⟩)
              | (have hr : R = ([], 61) := by rw [hR]; unfold wndV; rw [if_neg c19', if_pos (by unfold winV; omega)]
                 rw [hr]
                 exact ⟨none, 0, _, rfl, RdE.nil _ _, (hS.sub (List.nil_sublist _)).keep0⟩)
              | (have hr : R = ([], 1) := by rw [hR]; unfold wndV; rw [if_neg c19', if_neg (fun h => h (by unfold winV; omega)), if_pos (by omega)]
                 rw [hr]
                 exact ⟨none, 0, _, rfl, RdE.nil _ _, (hS.sub (List.nil_sublist _)).keep0⟩)
              | trace_state
          · try simp only [decide_eq_true_eq, decide_eq_false_iff_not, Bool.not_eq_true', Bool.not_eq_false', Int.not_lt, Int.not_le, Nat.not_lt, Nat.not_le, Bool.true_eq, Bool.false_eq, reduceCtorEq] at c40
            refine gl_un rfl rfl rfl rfl ?_
            refine gl_op rfl rfl rfl (op_pure hT rfl) ?_
            refine gl_un rfl rfl rfl rfl ?_
            refine gl_op rfl rfl rfl (op_fieldB 0 rfl Try.underlying27 rfl el3 rfl rfl) ?_
            refine gl_un rfl rfl rfl rfl ?_
            refine gl_op rfl rfl rfl (op_loadB 2 hT hS rfl rfl rfl rfl rfl rfl) ?_
            refine gl_un rfl rfl rfl rfl ?_
            refine gl_op rfl rfl rfl (op_fieldB 1 rfl Try.underlying27 rfl el3 rfl rfl) ?_
            refine gl_un rfl rfl rfl rfl ?_
            refine gl_op rfl rfl rfl (op_loadB 2 hT hS rfl rfl rfl rfl rfl rfl) ?_
            refine gl_un rfl rfl rfl rfl ?_
            first | refine gl_fit hT rfl rfl rfl rfl (by omega) ?_ | refine gl_op rfl rfl rfl (op_pure hT rfl) ?_
            refine gl_un rfl rfl rfl rfl ?_
            refine gl_op rfl rfl rfl (op_fieldB 2 rfl Try.underlying27 rfl el3 rfl rfl) ?_
            refine gl_un rfl rfl rfl rfl ?_
            refine gl_op rfl rfl rfl (op_loadB 2 hT hS rfl rfl rfl rfl rfl rfl) ?_
            refine gl_un rfl rfl rfl rfl ?_
            first | refine gl_fit hT rfl rfl rfl rfl (by omega) ?_ | refine gl_op rfl rfl rfl (op_pure hT rfl) ?_
            refine gl_un rfl rfl rfl rfl ?_
            refine gl_op rfl rfl rfl (op_pure hT rfl) ?_
            refine gl_op rfl rfl rfl (op_pure hT rfl) ?_
            refine gl_op rfl rfl rfl (op_pure hT rfl) ?_
            refine gl_nil ?_
            refine hK10 _ _ ?_
            clear hK10; try clear K10
            refine gc_cond rfl rfl (fun c37 => ?_) (fun c37 => ?_)
            · try simp only [decide_eq_true_eq, decide_eq_false_iff_not, Bool.not_eq_true', Bool.not_eq_false', Int.not_lt, Int.not_le, Nat.not_lt, Nat.not_le, Bool.true_eq, Bool.false_eq, reduceCtorEq] at c37
              refine gc_seq fun K12 hK12 => ?_
              refine gc_region ?_
              refine gl_op rfl rfl rfl (op_pure hT rfl) ?_
              refine gl_op rfl rfl rfl (op_pure hT rfl) ?_
              refine gl_nil ?_
              refine hK12 _ _ ?_
              clear hK12; try clear K12
              refine gc_ret ?_
              try simp only [x_then_ret, x_block_ret]
              refine gk_ret2 rfl rfl rfl ?_
              first
                | (rw [hR1, ← hws]
                   exact ⟨A1, _, _, by rw [List.length_map], rdE_nV (hS.rowRd (i := 4) rfl fun b hb => ⟨_, by simp, hb⟩) (List.length_map _), hS.keepAll⟩)
                | (have hr : R = ([], 61) := by rw [hR]; unfold wndV; rw [if_neg c19', if_pos (by unfold winV; omega)]
                   rw [hr]
                   exact ⟨none, 0, _, rfl, RdE.nil _ _, (hS.sub (List.nil_sublist _)).keep0⟩)
                | (have hr : R = ([], 1) := by rw [hR]; unfold wndV; rw [if_neg c19', if_neg (fun h => h (by unfold winV; omega)), if_pos (by omega)]
                   rw [hr]
                   exact ⟨none, 0, _, rfl, RdE.nil _ _, (hS.sub (List.nil_sublist _)).keep0⟩)
                | trace_state
            · try simp only [decide_eq_true_eq, decide_eq_false_iff_not, Bool.not_eq_true', Bool.not_eq_false', Int.not_lt, Int.not_le, Nat.not_lt, Nat.not_le, Bool.true_eq, Bool.false_eq, reduceCtorEq] at c37
              refine gc_skip ?_
              intro a ha
              exact ⟨ha.sub ⟨rfl, rfl, rfl, rfl, trivial⟩, ⟨by unfold winV; omega, by omega, by omega, c19⟩, hS⟩
      · try simp only [decide_eq_true_eq, decide_eq_false_iff_not, Bool.not_eq_true', Bool.not_eq_false', Int.not_lt, Int.not_le, Nat.not_lt, Nat.not_le, Bool.true_eq, Bool.false_eq, reduceCtorEq] at c27
        refine gl_pass rfl rfl rfl rfl rfl rfl ?_
        refine gl_pass rfl rfl rfl rfl rfl rfl ?_
        refine gl_pass rfl rfl rfl rfl rfl rfl ?_
        refine gl_op rfl rfl rfl (op_pure hT rfl) ?_
        refine gl_op rfl rfl rfl (op_pure hT rfl) ?_
        refine gl_pass rfl rfl rfl rfl rfl rfl ?_
        refine gl_pass rfl rfl rfl rfl rfl rfl ?_
        refine gl_pass rfl rfl rfl rfl rfl rfl ?_
        refine gl_op rfl rfl rfl (op_pure hT rfl) ?_
        refine gl_op rfl rfl rfl (op_pure hT rfl) ?_
        refine gl_nil ?_
        refine hK5 _ _ ?_
        clear hK5; try clear K5
        refine gc_cond_f rfl ?_
        refine gc_seq fun K13 hK13 => ?_
        refine gc_region ?_
        refine gl_op rfl rfl rfl (op_pure hT rfl) ?_
        refine gl_op rfl rfl rfl (op_pure hT rfl) ?_
        refine gl_op rfl rfl rfl (op_pure hT rfl) ?_
        refine gl_split (t := 40) rfl (fun c40 => ?_) (fun c40 => ?_)
        · try simp only [decide_eq_true_eq, decide_eq_false_iff_not, Bool.not_eq_true', Bool.not_eq_false', Int.not_lt, Int.not_le, Nat.not_lt, Nat.not_le, Bool.true_eq, Bool.false_eq, reduceCtorEq] at c40
          refine gl_pass rfl rfl rfl rfl rfl rfl ?_
          refine gl_pass rfl rfl rfl rfl rfl rfl ?_
          refine gl_pass rfl rfl rfl rfl rfl rfl ?_
          refine gl_pass rfl rfl rfl rfl rfl rfl ?_
          refine gl_pass rfl rfl rfl rfl rfl rfl ?_
          refine gl_pass rfl rfl rfl rfl rfl rfl ?_
          refine gl_pass rfl rfl rfl rfl rfl rfl ?_
          refine gl_pass rfl rfl rfl rfl rfl rfl ?_
          refine gl_pass rfl rfl rfl rfl rfl rfl ?_
          refine gl_pass rfl rfl rfl rfl rfl rfl ?_
          refine gl_op rfl rfl rfl (op_pure hT rfl) ?_
          refine gl_op rfl rfl rfl (op_pure hT rfl) ?_
          refine gl_nil ?_
          refine hK13 _ _ ?_
          clear hK13; try clear K13
          refine gc_cond_t rfl ?_
          refine gc_seq fun K14 hK14 => ?_
          refine gc_region ?_
          refine gl_op rfl rfl rfl (op_pure hT rfl) ?_
          refine gl_op rfl rfl rfl (op_pure hT rfl) ?_
          refine gl_nil ?_
          refine hK14 _ _ ?_
          clear hK14; try clear K14
          refine gc_ret ?_
          try simp only [x_then_ret, x_block_ret]
          refine gk_ret2 rfl rfl rfl ?_
          first
            | (rw [hR1, ← hws]
               exact ⟨A1, _, _, by rw [List.length_map], rdE_nV (hS.rowRd (i := 4) rfl fun b hb => ⟨_, by simp, hb⟩) (List.length_map _), hS.keepAll⟩)
            | (have hr : R = ([], 61) := by rw [hR]; unfold wndV; rw [if_neg c19', if_pos (by unfold winV; omega)]
               rw [hr]
               exact ⟨none, 0, _, rfl, RdE.nil _ _, (hS.sub (List.nil_sublist _)).keep0⟩)
            | (have hr : R = ([], 1) := by rw [hR]; unfold wndV; rw [if_neg c19', if_neg (fun h => h (by unfold winV; omega)), if_pos (by omega)]
               rw [hr]
               exact ⟨none, 0, _, rfl, RdE.nil _ _, (hS.sub (List.nil_sublist _)).keep0⟩)
            | trace_state
        · try simp only [decide_eq_true_eq, decide_eq_false_iff_not, Bool.not_eq_true', Bool.not_eq_false', Int.not_lt, Int.not_le, Nat.not_lt, Nat.not_le, Bool.true_eq, Bool.false_eq, reduceCtorEq] at c40
          refine gl_un rfl rfl rfl rfl ?_
          refine gl_op rfl rfl rfl (op_pure hT rfl) ?_
          refine gl_un rfl rfl rfl rfl ?_
          refine gl_op rfl rfl rfl (op_fieldB 0 rfl Try.underlying27 rfl el3 rfl rfl) ?_
          refine gl_un rfl rfl rfl rfl ?_
          refine gl_op rfl rfl rfl (op_loadB 2 hT hS rfl rfl rfl rfl rfl rfl) ?_
          refine gl_un rfl rfl rfl rfl ?_
          refine gl_op rfl rfl rfl (op_fieldB 1 rfl Try.underlying27 rfl el3 rfl rfl) ?_
          refine gl_un rfl rfl rfl rfl ?_
          refine gl_op rfl rfl rfl (op_loadB 2 hT hS rfl rfl rfl rfl rfl rfl) ?_
          refine gl_un rfl rfl rfl rfl ?_
          first | refine gl_fit hT rfl rfl rfl rfl (by omega) ?_ | refine gl_op rfl rfl rfl (op_pure hT rfl) ?_
          refine gl_un rfl rfl rfl rfl ?_
          refine gl_op rfl rfl rfl (op_fieldB 2 rfl Try.underlying27 rfl el3 rfl rfl) ?_
          refine gl_un rfl rfl rfl rfl ?_
          refine gl_op rfl rfl rfl (op_loadB 2 hT hS rfl rfl rfl rfl rfl rfl) ?_
          refine gl_un rfl rfl rfl rfl ?_
          first | refine gl_fit hT rfl rfl rfl rfl (by omega) ?_ | refine gl_op rfl rfl rfl (op_pure hT rfl) ?_
          refine gl_un rfl rfl rfl rfl ?_
          refine gl_op rfl rfl rfl (op_pure hT rfl) ?_
          refine gl_op rfl rfl rfl (op_pure hT rfl) ?_
          refine gl_op rfl rfl rfl (op_pure hT rfl) ?_
          refine gl_nil ?_
          refine hK13 _ _ ?_
          clear hK13; try clear K13
          refine gc_cond rfl rfl (fun c37 => ?_) (fun c37 => ?_)
          · try simp only [decide_eq_true_eq, decide_eq_false_iff_not, Bool.not_eq_true', Bool.not_eq_false', Int.not_lt, Int.not_le, Nat.not_lt, Nat.not_le, Bool.true_eq, Bool.false_eq, reduceCtorEq] at c37
            refine gc_seq fun K15 hK15 => ?_
            refine gc_region ?_
            refine gl_op rfl rfl rfl (op_pure hT rfl) ?_
            refine gl_op rfl rfl rfl (op_pure hT rfl) ?_
            refine gl_nil ?_
            refine hK15 _ _ ?_
            clear hK15; try clear K15
            refine gc_ret ?_
            try simp only [x_then_ret, x_block_ret]
            refine gk_ret2 rfl rfl rfl ?_
            first
              | (rw [hR1, ← hws]
                 exact ⟨A1, _, _, by rw [List.length_map], rdE_nV (hS.rowRd (i := 4) rfl fun b hb => ⟨_, by simp, hb⟩) (List.length_map _), hS.keepAll⟩)
              | (have hr : R = ([], 61) := by rw [hR]; unfold wndV; rw [if_neg c19', if_pos (by unfold winV; omega)]
                 rw [hr]
                 exact ⟨none, 0, _, rfl, RdE.nil _ _, (hS.sub (List.nil_sublist _)).keep0⟩)
              | (have hr : R = ([], 1) := by rw [hR]; unfold wndV; rw [if_neg c19', if_neg (fun h => h (by unfold winV; omega)), if_pos (by omega)]
                 rw [hr]
                 exact ⟨none, 0, _, rfl, RdE.nil _ _, (hS.sub (List.nil_sublist _)).keep0⟩)
              | trace_state
          · try simp only [decide_eq_true_eq, decide_eq_false_iff_not, Bool.not_eq_true', Bool.not_eq_false', Int.not_lt, Int.not_le, Nat.not_lt, Nat.not_le, Bool.true_eq, Bool.false_eq, reduceCtorEq] at c37
            refine gc_skip ?_
            intro a ha
            exact ⟨ha.sub ⟨rfl, rfl, rfl, rfl, trivial⟩, ⟨by unfold winV; omega, by omega, by omega, c19⟩, hS⟩
  rintro a w1 ⟨hF, ⟨hwk, hi0, hi1, c19⟩, hS⟩
  refine gc_of hF ?_
  clear hF
  obtain ⟨hf0, hsz, hnw, hn6, hso, hoe⟩ := outV_ok c19
  obtain ⟨hk1, hk2, hfo⟩ := fv_zero hf0
  have hgs := sz_good hsz
  have hgo := sz_good hso
  have hwn := fld_win hfo hwk
  have hWk : WinOk L s := ⟨hwk, hwn.1, hwn.2.1, hwn.2.2.1, hwn.2.2.2.1, by omega, by omega, hgs.1, hgs.2.1, hgs.2.2.1⟩
  have hR1 : R = ((winV_ L s (outS L s) i).map fun e => placeV s e.at_, 0) := by
    rw [hR]; unfold wndV
    rw [if_neg (by rw [c19]; simp), if_neg (fun h => h hwk), if_neg (by omega)]
  have hsp := spot_bd (s := outS L s) hgo.2.1 hgo.2.2.1 hi0 hi1 hgo.1
  obtain ⟨ws, hws⟩ : ∃ ws, ws = winV_ L s (outS L s) i := ⟨_, rfl⟩
  have hwm : ∀ x ∈ ws, (0 ≤ x.at_.c ∧ x.at_.c < 256) ∧ (0 ≤ x.at_.y ∧ x.at_.y < s.h) ∧ (0 ≤ x.at_.x ∧ x.at_.x < s.w) := by
    intro x hx
    rw [hws] at hx
    unfold winV_ at hx
    by_cases h2 : L.k = 2
    · rw [if_pos h2] at hx
      have := win_mem hx
      omega
    · rw [if_neg h2] at hx
      have := win_mem hx
      omega
  have hwl : ws.length ≤ 65536 := by
    rw [hws]
    unfold winV_
    have h16 : L.kh.toNat * L.kw.toNat ≤ 16 * 16 := Nat.mul_le_mul (by omega) (by omega)
    split
    · have h17 := Nat.mul_le_mul (show s.c.toNat ≤ 256 by omega) h16; have h18 := winC_le L s (spotV (outS L s) i) 0 s.c.toNat; omega
    · have h18 := winC_le L s (spotV (outS L s) i) (spotV (outS L s) i).c.toNat 1; omega
  refine gc_seq fun K16 hK16 => ?_
  refine gc_region ?_
  refine gl_op rfl rfl rfl (op_pure hT rfl) ?_
  refine gl_nil ?_
  refine hK16 _ _ ?_
  clear hK16; try clear K16
  refine gc_seq fun K17 hK17 => ?_
  refine gc_seq fun K18 hK18 => ?_
  refine gc_region ?_
  refine gl_op rfl rfl rfl (op_loadG 0 Try.underlying32 rfl el32 hS rfl rfl rfl rfl rfl) ?_
  refine gl_op rfl rfl rfl (op_loadG 1 Try.underlying27 rfl el27 hS rfl rfl rfl rfl rfl) ?_
  refine gl_op rfl rfl rfl (op_loadG 2 Try.underlying27 rfl el27 hS rfl rfl rfl rfl rfl) ?_
  refine gl_op rfl rfl rfl (op_pure hT rfl) ?_
  refine gl_callf rfl rfl rfl rfl Try.func30 rfl rfl rfl (window_calls L s (outS L s) i _ hWk hgo.1 hgo.2.1 hgo.2.2.1 ⟨hi0, hi1⟩ hgo.2.2.2.2) ?_
  rintro _ w56 ⟨A56, c56, rfl, hr56, hb56⟩
  refine ⟨_, rfl, ?_⟩
  have hS := hS.addRow hb56 hr56
  refine gl_op rfl rfl rfl (op_pure hT rfl) ?_
  refine gl_op rfl rfl rfl (op_pure hT rfl) ?_
  refine gl_nil ?_
  refine hK18 _ _ ?_
  clear hK18; try clear K18
  refine gc_block ?_
  have hS : St w.heap.size w _ [.blk g3 32 (lyC L), .blk g4 27 (shC s), .blk g8 27 (shC (outS L s)), .row A56 c56 75 5 (winV_ L s (outS L s) i).length ((winV_ L s (outS L s) i).map seC).flatten] := hS
  rw [← hws] at hS ⊢
  have hS := hS.nil 3 1
  refine gc_loop (fun k a w' => ∃ (j : Nat) (A1 : Option Addr) (c1 : Nat), Fr 72 a [(4, .pointer (some ⟨g4, 0, none⟩)), (10, .slice A1 (ws.take j).length c1), (56, .slice A56 ws.length c56), (57, .int .i64 (ws.length : Nat)), (58, .int .i64 (j : Nat))] ∧ j ≤ ws.length ∧ k = ws.length + 1 - j ∧
    St w.heap.size w w' [.blk g3 32 (lyC L), .blk g4 27 (shC s), .blk g8 27 (shC (outS L s)), .row A56 c56 75 5 ws.length (ws.map seC).flatten, .row A1 c1 3 1 (ws.take j).length (((ws.take j).map fun e => placeV s e.at_).map nV)]) (ws.length + 1) ?_ ?_ ?_
  · intro a ha; exact ⟨0, none, 0, ha.sub ⟨rfl, rfl, rfl, rfl, rfl, trivial⟩, by omega, by omega, hS⟩
  · rintro a w' ⟨j, _, _, _, h1, h2, _⟩; omega
  rintro k a w1 ⟨j, A1, c1, hF, hj, hk, hS⟩
  refine gc_of hF ?_
  clear hF
  have htk : (ws.take j).length = j := by rw [List.length_take]; omega
  refine gc_seq fun K19 hK19 => ?_
  refine gc_region ?_
  refine gl_op rfl rfl rfl (op_pure hT rfl) ?_
  refine gl_nil ?_
  refine hK19 _ _ ?_
  clear hK19; try clear K19
  refine gc_seq fun K20 hK20 => ?_
  refine gc_cond rfl rfl (fun c59 => ?_) (fun c59 => ?_)
  · try simp only [decide_eq_true_eq, decide_eq_false_iff_not, Bool.not_eq_true', Bool.not_eq_false', Int.not_lt, Int.not_le, Nat.not_lt, Nat.not_le, Bool.true_eq, Bool.false_eq, reduceCtorEq] at c59
    refine gc_skip ?_
    refine hK20 _ _ ?_
    clear hK20; try clear K20
    refine gc_seq fun K21 hK21 => ?_
    refine gc_block ?_
    refine gc_seq fun K22 hK22 => ?_
    refine gc_region ?_
    have hjl : j < ws.length := by omega
    obtain ⟨x, hx⟩ : ∃ x, ws[j]? = some x := ⟨_, List.getElem?_eq_getElem hjl⟩
    have hxw := hwm x (List.mem_of_getElem? hx)
    have htake : ws.take (j + 1) = ws.take j ++ [x] := by rw [List.take_add_one, hx]; rfl
    have hRs : RdS _ All seC 5 A56 ws := ⟨hS.rd (i := 3) rfl, fun _ => rfl⟩
    obtain ⟨ad7, hA7, hc7⟩ := hRs.at hx
    refine gl_op rfl rfl rfl (op_indexAddr hT rfl rfl el75.cellsOf.1 el75.cellsOf.2 rfl rfl (by omega) (by omega) hA7) ?_
    refine gl_op rfl rfl rfl (op_loadS Try.underlying75 rfl el75 rfl rfl hc7 rfl) ?_
    refine gl_alloc el75 hS rfl rfl rfl rfl fun g12 w12 hS => ?_
    refine gl_storeM 5 hS el75 rfl rfl rfl rfl rfl rfl rfl rfl rfl fun wrows_go_141 hS => ?_
    refine gl_nil ?_
    refine hK22 _ _ ?_
    clear hK22; try clear K22
    refine gc_region ?_
    refine gl_op rfl rfl rfl (op_pure hT rfl) ?_
    refine gl_op rfl rfl rfl (op_loadG 1 Try.underlying27 rfl el27 hS rfl rfl rfl rfl rfl) ?_
    refine gl_op rfl rfl rfl (op_fieldB 0 rfl Try.underlying75 rfl el66 rfl rfl) ?_
    refine gl_op rfl rfl rfl (op_loadG 5 Try.underlying66 rfl el66 hS rfl rfl rfl rfl rfl) ?_
    refine gl_callf rfl rfl rfl rfl Try.func31 rfl rfl rfl (place_calls s x.at_ _ ⟨by omega, by omega⟩ ⟨by omega, by omega⟩ ⟨by omega, by omega⟩ ⟨by omega, by omega⟩ ⟨by omega, by omega⟩) ?_
    rintro _ w66 ⟨rfl, hb66⟩
    refine ⟨_, rfl, ?_⟩
    have hS := hS.grown hb66
    refine gl_lit hT hS el3 rfl rfl rfl rfl rfl rfl rfl rfl rfl fun g67 w67 hS => ?_
    refine gl_append 4 hT hS el3 (hS.rd (i := 6) rfl) (rfl) rfl rfl rfl rfl rfl rfl rfl rfl (by first | omega | (simp; omega)) (by first | omega | (simp; omega)) fun A68 c68 w68 hS => ?_
    have hS := hS.erase 6
    refine gl_op rfl rfl rfl (op_pure hT rfl) ?_
    refine gl_nil ?_
    refine hK21 _ _ ?_
    clear hK21; try clear K21
    refine gc_region ?_
    first | refine gl_fit hT rfl rfl rfl rfl (by omega) ?_ | refine gl_op rfl rfl rfl (op_pure hT rfl) ?_
    refine gl_op rfl rfl rfl (op_pure hT rfl) ?_
    refine gl_nil ?_
    intro a ha
    have hS := hS.pre 5
    have e1 : (ws.take (j + 1)).length = (ws.take j).length + 1 := by rw [htake, List.length_append]; rfl
    refine ⟨j + 1, A68, c68, ha.sub ⟨rfl, ?_, rfl, rfl, rfl, trivial⟩, by omega, by omega, ?_⟩
    · rw [e1]; rfl
    · rw [e1, htake, List.map_append, List.map_append]
      exact hS
  · try simp only [decide_eq_true_eq, decide_eq_false_iff_not, Bool.not_eq_true', Bool.not_eq_false', Int.not_lt, Int.not_le, Nat.not_lt, Nat.not_le, Bool.true_eq, Bool.false_eq, reduceCtorEq] at c59
    have hje : ws.take j = ws := List.take_of_length_le (by omega)
    rw [hje] at hS ⊢
    have hcap1 := (hS.cap (i := 4) rfl).1
    refine gc_exit ?_
    refine hK17 _ _ ?_
    clear hK17; try clear K17
    refine gc_seq fun K23 hK23 => ?_
    refine gc_region ?_
    refine gl_op rfl rfl rfl (op_pure hT rfl) ?_
    refine gl_callf rfl rfl rfl rfl Try.func32 rfl rfl rfl (clipI_calls _ _ _ hcap1 _) ?_
    rintro _ _ ⟨rfl, n71, rfl⟩
    refine ⟨_, rfl, ?_⟩
    have hS := hS.dr n71
    refine gl_op rfl rfl rfl (op_pure hT rfl) ?_
    refine gl_op rfl rfl rfl (op_pure hT rfl) ?_
    refine gl_nil ?_
    refine hK23 _ _ ?_
    clear hK23; try clear K23
    refine gc_ret ?_
    try simp only [x_then_ret, x_block_ret]
    refine gk_ret2 rfl rfl rfl ?_
    first
      | (rw [hR1, ← hws]
         exact ⟨A1, _, _, by rw [List.length_map], rdE_nV (hS.rowRd (i := 4) rfl fun b hb => ⟨_, by simp, hb⟩) (List.length_map _), hS.keepAll⟩)
      | (have hr : R = ([], 61) := by rw [hR]; unfold wndV; rw [if_neg c19', if_pos (by unfold winV; omega)]
         rw [hr]
         exact ⟨none, 0, _, rfl, RdE.nil _ _, (hS.sub (List.nil_sublist _)).keep0⟩)
      | (have hr : R = ([], 1) := by rw [hR]; unfold wndV; rw [if_neg c19', if_neg (fun h => h (by unfold winV; omega)), if_pos (by omega)]
         rw [hr]
         exact ⟨none, 0, _, rfl, RdE.nil _ _, (hS.sub (List.nil_sublist _)).keep0⟩)
      | trace_state
end Go.Proofs.Ytkfhablonnjgeaa
