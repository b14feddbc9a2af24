/- The contract of rows.Row. No condition. -/
import Derived.Test.YtkfhablonnjgeaaRo3
import Derived.Test.YtkfhablonnjgeaaLibN
namespace Go.Proofs.Ytkfhablonnjgeaa
open Go.RowKit
set_option linter.unusedVariables false
set_option linter.unusedSimpArgs false
theorem turnN_calls (A : Option Addr) (n c : Nat) (l : List (Nat × Nat)) (z : Nat × Nat) (b : Bool) (w : World) {ok : Nat → Prop} (h1 : RdE w ok cV A l) (hn : n = l.length) (hl : l.length ≤ 1048576) (hf : ∀ x ∈ l, x.2 < 18446744073709551616) :
    Calls Try.prog 29 ⟨[.slice A n c, cV z, .bool b]⟩ w fun e w' => ∃ A' c', e = .returned (.tuple #[.slice A' (turnW b l).length c', .float .f64 (if b then z.2 else z.1)]) ∧ Owns w' w.heap.size A' c' 28 1 (turnW b l).length ((turnW b l).map fV) ∧ Below w.heap.size w w' := by
  subst hn; exact turn_calls A c l z b w h1 hl hf
theorem win_memX {L : Ly} {s : Sh} {o : Sp} {c p q : Nat} {x : Se} (h : x ∈ winX L s o c p q) : x.at_.c = c ∧ (0 ≤ x.at_.y ∧ x.at_.y < s.h) ∧ (0 ≤ x.at_.x ∧ x.at_.x < s.w) ∧ x.p = p ∧ x.q = q := by
  unfold winX at h
  split at h
  · rename_i hc
    rw [List.mem_singleton] at h
    subst h
    exact ⟨rfl, ⟨hc.1, hc.2.1⟩, ⟨hc.2.2.1, hc.2.2.2⟩, rfl, rfl⟩
  · cases h
theorem win_mem {L : Ly} {s : Sh} {o : Sp} {F M : Nat} {x : Se} (h : x ∈ winC L s o F M) : (F ≤ x.at_.c ∧ x.at_.c < (F + M : Nat)) ∧ (0 ≤ x.at_.y ∧ x.at_.y < s.h) ∧ (0 ≤ x.at_.x ∧ x.at_.x < s.w) ∧ (0 ≤ x.p ∧ x.p < L.kh.toNat) ∧ (0 ≤ x.q ∧ x.q < L.kw.toNat) := by
  unfold winC winP winQ at h
  simp only [List.mem_flatMap, List.mem_range] at h
  obtain ⟨c, hc, p, hp, q, hq, h⟩ := h
  obtain ⟨h1, h2, h3, h4, h5⟩ := win_memX h
  omega
theorem ix_bd {a A b B : Int} (h1 : 0 ≤ a) (h2 : a < A) (h3 : 0 ≤ b) (h4 : b < B) : 0 ≤ a * B + b ∧ a * B + b < A * B := by
  have e1 : 0 ≤ a * B := Int.mul_nonneg h1 (by omega)
  have e2 : (a + 1) * B ≤ A * B := Int.mul_le_mul_of_nonneg_right (by omega) (by omega)
  have e3 : (a + 1) * B = a * B + B := by rw [Int.add_mul, Int.one_mul]
  omega
set_option maxHeartbeats 8000000 in
set_option maxRecDepth 100000 in
theorem rowK_calls (L : Ly) (lw lb : List Nat) (lz lzb : List (Nat × Nat)) (s : Sh) (i : Int) (w : World) (hL : L.ok) (hs : s.ok) {ok : Nat → Prop} (D : LyD w ok L lw lb lz lzb) (hi64 : i64 i) (R : Rw) (hR : R = rowV L lw lb lz lzb s i) :
    Calls Try.prog 15 ⟨[.agg ⟨lyC L⟩, .agg ⟨shC s⟩, .int .i64 i]⟩ w fun e w' => ∃ A1 c1 A2 c2 K, e = .returned (.tuple #[.slice A1 R.cols.length c1, .slice A2 R.w.length c2, .float .f64 R.b, .int .i64 R.e]) ∧ RdE w' K nV A1 R.cols ∧ RdE w' K fV A2 R.w ∧ St w.heap.size w w' [.keep K w'] := by
  have hlens : L.W.2.1 ≤ 17592186044416 ∧ L.B.2.1 ≤ 17592186044416 ∧ L.Z.2.1 ≤ 17592186044416 ∧ L.ZB.2.1 ≤ 17592186044416 := by rw [D.nW, D.nB, D.nZ, D.nZB]; exact ⟨D.lW, D.lB, D.lZ, D.lZB⟩
  refine gc_enter (N := 203) Try.func15 rfl rfl rfl [(0, _), (1, _), (2, _)] rfl ?_
  have hS := St.start w
  refine gc_seq fun K1 hK1 => ?_
  refine gc_region ?_
  refine gl_box hS rfl rfl rfl rfl rfl fun g3 w3 hS => ?_
  refine gl_box hS rfl rfl rfl rfl rfl fun g4 w4 hS => ?_
  refine gl_op rfl rfl rfl (op_pure hT rfl) ?_
  refine gl_op rfl rfl rfl (op_pure hT rfl) ?_
  refine gl_op rfl rfl rfl (op_pure hT rfl) ?_
  refine gl_op rfl rfl rfl (op_pure hT rfl) ?_
  refine gl_nil ?_
  refine hK1 _ _ ?_
  clear hK1; try clear K1
  refine gc_seq fun K2 hK2 => ?_
  refine gc_region ?_
  refine gl_op rfl rfl rfl (op_loadG 0 Try.underlying32 rfl el32 hS rfl rfl rfl rfl rfl) ?_
  refine gl_op rfl rfl rfl (op_loadG 1 Try.underlying27 rfl el27 hS rfl rfl rfl rfl rfl) ?_
  refine gl_callf rfl rfl rfl rfl Try.func24 rfl rfl rfl (mOut_calls L s _ hL hs) ?_
  rintro _ w19 ⟨rfl, hb19⟩
  refine ⟨_, rfl, ?_⟩
  have hS := hS.grown hb19
  refine gl_op rfl rfl rfl (op_pure hT rfl) ?_
  refine gl_op rfl rfl rfl (op_pure hT rfl) ?_
  refine gl_op rfl rfl rfl (op_pure hT rfl) ?_
  refine gl_alloc el27 hS rfl rfl rfl rfl fun g10 w10 hS => ?_
  refine gl_storeM 2 hS el27 rfl rfl rfl rfl rfl rfl rfl rfl rfl fun wrows_go_67 hS => ?_
  refine gl_op rfl rfl rfl (op_pure hT rfl) ?_
  refine gl_nil ?_
  refine hK2 _ _ ?_
  clear hK2; try clear K2
  refine gc_seq fun K3 hK3 => ?_
  refine gc_block ?_
  refine gc_seq fun K4 hK4 => ?_
  refine gc_region ?_
  refine gl_op rfl rfl rfl (op_pure hT rfl) ?_
  refine gl_op rfl rfl rfl (op_pure hT rfl) ?_
  refine gl_op rfl rfl rfl (op_pure hT rfl) ?_
  refine gl_nil ?_
  refine hK4 _ _ ?_
  clear hK4; try clear K4
  refine gc_cond rfl rfl (fun c22 => ?_) (fun c22 => ?_)
  · try simp only [decide_eq_true_eq, decide_eq_false_iff_not, Bool.not_eq_true', Bool.not_eq_false', Int.not_lt, Int.not_le, Nat.not_lt, Nat.not_le, Bool.true_eq, Bool.false_eq, reduceCtorEq] at c22
    refine gc_seq fun K5 hK5 => ?_
    refine gc_region ?_
    refine gl_op rfl rfl rfl (op_pure hT rfl) ?_
    refine gl_op rfl rfl rfl (op_pure hT rfl) ?_
    refine gl_op rfl rfl rfl (op_pure hT rfl) ?_
    refine gl_op rfl rfl rfl (op_pure hT rfl) ?_
    refine gl_op rfl rfl rfl (op_pure hT rfl) ?_
    refine gl_nil ?_
    refine hK5 _ _ ?_
    clear hK5; try clear K5
    refine gc_ret ?_
    try simp only [x_then_ret, x_block_ret]
    refine gk_ret4 rfl rfl rfl rfl rfl ?_
    have hr : R = ⟨[], [], 0, (outV L s).2⟩ := by rw [hR]; unfold rowV; rw [if_pos c22]
    rw [hr]
    exact ⟨none, 0, none, 0, _, rfl, RdE.nil _ _, RdE.nil _ _, (hS.sub (List.nil_sublist _)).keep0⟩
  · try simp only [decide_eq_true_eq, decide_eq_false_iff_not, Bool.not_eq_true', Bool.not_eq_false', Int.not_lt, Int.not_le, Nat.not_lt, Nat.not_le, Bool.true_eq, Bool.false_eq, reduceCtorEq] at c22
    obtain ⟨hf0, hsz, hnw, hn6, hso, hoe⟩ := outV_ok c22
    obtain ⟨hk1, hk2, hfo⟩ := fv_zero hf0
    have hout := fld_out hfo
    have hgs := sz_good hsz
    have hgo := sz_good hso
    have hS : St w.heap.size w _ [.blk g3 32 (lyC L), .blk g4 27 (shC s), .blk g10 27 (shC (outV L s).1)] := hS
    rw [hoe] at hS
    have c22' : ¬ (outV L s).2 ≠ 0 := by rw [c22]; simp
    have hls : listsV L s = (lensV L s, 0) := by unfold listsV; rw [if_neg c22']
    refine gc_seq fun K6 hK6 => ?_
    refine gc_region ?_
    refine gl_op rfl rfl rfl (op_fieldB 0 rfl Try.underlying32 rfl el3 rfl rfl) ?_
    refine gl_op rfl rfl rfl (op_loadB 0 hT hS rfl rfl rfl rfl rfl rfl) ?_
    refine gl_op rfl rfl rfl (op_pure hT rfl) ?_
    refine gl_op rfl rfl rfl (op_pure hT rfl) ?_
    refine gl_split (t := 30) rfl (fun c30 => ?_) (fun c30 => ?_)
    · try simp only [decide_eq_true_eq, decide_eq_false_iff_not, Bool.not_eq_true', Bool.not_eq_false', Int.not_lt, Int.not_le, Nat.not_lt, Nat.not_le, Bool.true_eq, Bool.false_eq, reduceCtorEq] at c30
      refine gl_pass rfl rfl rfl rfl rfl rfl ?_
      refine gl_pass rfl rfl rfl rfl rfl rfl ?_
      refine gl_pass rfl rfl rfl rfl rfl rfl ?_
      refine gl_pass rfl rfl rfl rfl rfl rfl ?_
      refine gl_op rfl rfl rfl (op_pure hT rfl) ?_
      refine gl_op rfl rfl rfl (op_pure hT rfl) ?_
      refine gl_nil ?_
      refine hK6 _ _ ?_
      clear hK6; try clear K6
      refine gc_cond_t rfl ?_
      refine gc_seq fun K7 hK7 => ?_
      refine gc_region ?_
      refine gl_op rfl rfl rfl (op_pure hT rfl) ?_
      refine gl_op rfl rfl rfl (op_pure hT rfl) ?_
      refine gl_op rfl rfl rfl (op_pure hT rfl) ?_
      refine gl_op rfl rfl rfl (op_pure hT rfl) ?_
      refine gl_nil ?_
      refine hK7 _ _ ?_
      clear hK7; try clear K7
      refine gc_ret ?_
      try simp only [x_then_ret, x_block_ret]
      refine gk_ret4 rfl rfl rfl rfl rfl ?_
      have hr : R = ⟨[], [], 0, 61⟩ := by rw [hR]; unfold rowV; rw [if_neg c22', if_pos (by omega)]
      rw [hr]
      exact ⟨none, 0, none, 0, _, rfl, RdE.nil _ _, RdE.nil _ _, (hS.sub (List.nil_sublist _)).keep0⟩
    · try simp only [decide_eq_true_eq, decide_eq_false_iff_not, Bool.not_eq_true', Bool.not_eq_false', Int.not_lt, Int.not_le, Nat.not_lt, Nat.not_le, Bool.true_eq, Bool.false_eq, reduceCtorEq] at c30
      refine gl_un rfl rfl rfl rfl ?_
      refine gl_op rfl rfl rfl (op_fieldB 0 rfl Try.underlying32 rfl el3 rfl rfl) ?_
      refine gl_un rfl rfl rfl rfl ?_
      refine gl_op rfl rfl rfl (op_loadB 0 hT hS rfl rfl rfl rfl rfl rfl) ?_
      refine gl_un rfl rfl rfl rfl ?_
      refine gl_callf rfl rfl rfl rfl Try.func8 rfl rfl rfl (linear_calls L.k _) ?_
      rintro _ _ ⟨rfl, n33, rfl⟩
      refine ⟨_, rfl, ?_⟩
      have hS := hS.dr n33
      refine gl_un rfl rfl rfl rfl ?_
      refine gl_op rfl rfl rfl (op_pure hT rfl) ?_
      refine gl_op rfl rfl rfl (op_pure hT rfl) ?_
      refine gl_op rfl rfl rfl (op_pure hT rfl) ?_
      refine gl_nil ?_
      refine hK6 _ _ ?_
      clear hK6; try clear K6
      refine gc_cond rfl rfl (fun c26 => ?_) (fun c26 => ?_)
      · try simp only [decide_eq_true_eq, decide_eq_false_iff_not, Bool.not_eq_true', Bool.not_eq_false', Int.not_lt, Int.not_le, Nat.not_lt, Nat.not_le, Bool.true_eq, Bool.false_eq, reduceCtorEq] at c26
        refine gc_seq fun K8 hK8 => ?_
        refine gc_region ?_
        refine gl_op rfl rfl rfl (op_pure hT rfl) ?_
        refine gl_op rfl rfl rfl (op_pure hT rfl) ?_
        refine gl_op rfl rfl rfl (op_pure hT rfl) ?_
        refine gl_op rfl rfl rfl (op_pure hT rfl) ?_
        refine gl_nil ?_
        refine hK8 _ _ ?_
        clear hK8; try clear K8
        refine gc_ret ?_
        try simp only [x_then_ret, x_block_ret]
        refine gk_ret4 rfl rfl rfl rfl rfl ?_
        have hr : R = ⟨[], [], 0, 61⟩ := by rw [hR]; unfold rowV; rw [if_neg c22', if_pos (by omega)]
        rw [hr]
        exact ⟨none, 0, none, 0, _, rfl, RdE.nil _ _, RdE.nil _ _, (hS.sub (List.nil_sublist _)).keep0⟩
      · try simp only [decide_eq_true_eq, decide_eq_false_iff_not, Bool.not_eq_true', Bool.not_eq_false', Int.not_lt, Int.not_le, Nat.not_lt, Nat.not_le, Bool.true_eq, Bool.false_eq, reduceCtorEq] at c26
        refine gc_seq fun K9 hK9 => ?_
        refine gc_region ?_
        refine gl_op rfl rfl rfl (op_loadG 0 Try.underlying32 rfl el32 hS rfl rfl rfl rfl rfl) ?_
        refine gl_op rfl rfl rfl (op_loadG 1 Try.underlying27 rfl el27 hS rfl rfl rfl rfl rfl) ?_
        refine gl_callf rfl rfl rfl rfl Try.func25 rfl rfl rfl (whole_calls L s _ hL hs hlens) ?_
        rintro _ w39 ⟨rfl, hb39⟩
        refine ⟨_, rfl, ?_⟩
        have hS := hS.grown hb39
        refine gl_op rfl rfl rfl (op_pure hT rfl) ?_
        refine gl_op rfl rfl rfl (op_pure hT rfl) ?_
        refine gl_nil ?_
        refine hK9 _ _ ?_
        clear hK9; try clear K9
        refine gc_cond rfl rfl (fun c36 => ?_) (fun c36 => ?_)
        · try simp only [decide_eq_true_eq, decide_eq_false_iff_not, Bool.not_eq_true', Bool.not_eq_false', Int.not_lt, Int.not_le, Nat.not_lt, Nat.not_le, Bool.true_eq, Bool.false_eq, reduceCtorEq] at c36
          refine gc_seq fun K10 hK10 => ?_
          refine gc_region ?_
          refine gl_op rfl rfl rfl (op_pure hT rfl) ?_
          refine gl_op rfl rfl rfl (op_pure hT rfl) ?_
          refine gl_op rfl rfl rfl (op_pure hT rfl) ?_
          refine gl_op rfl rfl rfl (op_pure hT rfl) ?_
          refine gl_nil ?_
          refine hK10 _ _ ?_
          clear hK10; try clear K10
          refine gc_ret ?_
          try simp only [x_then_ret, x_block_ret]
          refine gk_ret4 rfl rfl rfl rfl rfl ?_
          rw [D.nW, D.nB, D.nZ, D.nZB] at c36
          have hr : R = ⟨[], [], 0, 63⟩ := by rw [hR]; unfold rowV; rw [if_neg c22', if_neg (by omega), if_pos c36]
          rw [hr]
          exact ⟨none, 0, none, 0, _, rfl, RdE.nil _ _, RdE.nil _ _, (hS.sub (List.nil_sublist _)).keep0⟩
        · try simp only [decide_eq_true_eq, decide_eq_false_iff_not, Bool.not_eq_true', Bool.not_eq_false', Int.not_lt, Int.not_le, Nat.not_lt, Nat.not_le, Bool.true_eq, Bool.false_eq, reduceCtorEq] at c36
          rw [D.nW, D.nB, D.nZ, D.nZB] at c36
          have hwh := c36
          unfold wholeV at hwh
          simp only [Bool.and_eq_true, decide_eq_true_eq, hls] at hwh
          obtain ⟨⟨⟨hw1, hw2⟩, hw3⟩, hw4⟩ := hwh
          have c36' : ¬ wholeV L s lw.length lb.length lz.length lzb.length = false := by rw [c36]; simp
          have b1 := mul_bd (a := (outS L s).c) (b := (outS L s).h) (A := 256) (B := 256) (by omega) (by omega) (by omega) (by omega)
          have b2 := mul_bd (a := s.c) (b := s.h) (A := 256) (B := 256) (by omega) (by omega) (by omega) (by omega)
          refine gc_seq fun K11 hK11 => ?_
          refine gc_region ?_
          refine gl_op rfl rfl rfl (op_pure hT rfl) ?_
          refine gl_op rfl rfl rfl (op_pure hT rfl) ?_
          refine gl_op rfl rfl rfl (op_pure hT rfl) ?_
          refine gl_split (t := 44) rfl (fun c44 => ?_) (fun c44 => ?_)
          · try simp only [decide_eq_true_eq, decide_eq_false_iff_not, Bool.not_eq_true', Bool.not_eq_false', Int.not_lt, Int.not_le, Nat.not_lt, Nat.not_le, Bool.true_eq, Bool.false_eq, reduceCtorEq] at c44
            refine gl_pass rfl rfl rfl rfl rfl rfl ?_
            refine gl_pass rfl rfl rfl rfl rfl rfl ?_
            refine gl_pass rfl rfl rfl rfl rfl rfl ?_
            refine gl_pass rfl rfl rfl rfl rfl rfl ?_
            refine gl_pass rfl rfl rfl rfl rfl rfl ?_
            refine gl_pass rfl rfl rfl rfl rfl rfl ?_
            refine gl_pass rfl rfl rfl rfl rfl rfl ?_
            refine gl_pass rfl rfl rfl rfl rfl rfl ?_
            refine gl_pass rfl rfl rfl rfl rfl rfl ?_
            refine gl_pass rfl rfl rfl rfl rfl rfl ?_
            refine gl_op rfl rfl rfl (op_pure hT rfl) ?_
            refine gl_op rfl rfl rfl (op_pure hT rfl) ?_
            refine gl_nil ?_
            refine hK11 _ _ ?_
            clear hK11; try clear K11
            refine gc_cond_t rfl ?_
            refine gc_seq fun K12 hK12 => ?_
            refine gc_region ?_
            refine gl_op rfl rfl rfl (op_pure hT rfl) ?_
            refine gl_op rfl rfl rfl (op_pure hT rfl) ?_
            refine gl_op rfl rfl rfl (op_pure hT rfl) ?_
            refine gl_op rfl rfl rfl (op_pure hT rfl) ?_
            refine gl_nil ?_
            refine hK12 _ _ ?_
            clear hK12; try clear K12
            refine gc_ret ?_
            try simp only [x_then_ret, x_block_ret]
            refine gk_ret4 rfl rfl rfl rfl rfl ?_
            have hr : R = ⟨[], [], 0, 1⟩ := by rw [hR]; unfold rowV; rw [if_neg c22', if_neg (by omega), if_neg c36', if_pos (by omega)]
            rw [hr]
            exact ⟨none, 0, none, 0, _, rfl, RdE.nil _ _, RdE.nil _ _, (hS.sub (List.nil_sublist _)).keep0⟩
          · try simp only [decide_eq_true_eq, decide_eq_false_iff_not, Bool.not_eq_true', Bool.not_eq_false', Int.not_lt, Int.not_le, Nat.not_lt, Nat.not_le, Bool.true_eq, Bool.false_eq, reduceCtorEq] at c44
            refine gl_un rfl rfl rfl rfl ?_
            refine gl_op rfl rfl rfl (op_pure hT rfl) ?_
            refine gl_un rfl rfl rfl rfl ?_
            refine gl_op rfl rfl rfl (op_fieldB 0 rfl Try.underlying27 rfl el3 rfl rfl) ?_
            refine gl_un rfl rfl rfl rfl ?_
            refine gl_op rfl rfl rfl (op_loadB 2 hT hS rfl rfl rfl rfl rfl rfl) ?_
            refine gl_un rfl rfl rfl rfl ?_
            refine gl_op rfl rfl rfl (op_fieldB 1 rfl Try.underlying27 rfl el3 rfl rfl) ?_
            refine gl_un rfl rfl rfl rfl ?_
            refine gl_op rfl rfl rfl (op_loadB 2 hT hS rfl rfl rfl rfl rfl rfl) ?_
            refine gl_un rfl rfl rfl rfl ?_
            first | refine gl_fit hT rfl rfl rfl rfl (by omega) ?_ | refine gl_op rfl rfl rfl (op_pure hT rfl) ?_
            refine gl_un rfl rfl rfl rfl ?_
            refine gl_op rfl rfl rfl (op_fieldB 2 rfl Try.underlying27 rfl el3 rfl rfl) ?_
            refine gl_un rfl rfl rfl rfl ?_
            refine gl_op rfl rfl rfl (op_loadB 2 hT hS rfl rfl rfl rfl rfl rfl) ?_
            refine gl_un rfl rfl rfl rfl ?_
            first | refine gl_fit hT rfl rfl rfl rfl (by omega) ?_ | refine gl_op rfl rfl rfl (op_pure hT rfl) ?_
            refine gl_un rfl rfl rfl rfl ?_
            refine gl_op rfl rfl rfl (op_pure hT rfl) ?_
            refine gl_op rfl rfl rfl (op_pure hT rfl) ?_
            refine gl_op rfl rfl rfl (op_pure hT rfl) ?_
            refine gl_nil ?_
            refine hK11 _ _ ?_
            clear hK11; try clear K11
            refine gc_cond rfl rfl (fun c41 => ?_) (fun c41 => ?_)
            · try simp only [decide_eq_true_eq, decide_eq_false_iff_not, Bool.not_eq_true', Bool.not_eq_false', Int.not_lt, Int.not_le, Nat.not_lt, Nat.not_le, Bool.true_eq, Bool.false_eq, reduceCtorEq] at c41
              refine gc_seq fun K13 hK13 => ?_
              refine gc_region ?_
              refine gl_op rfl rfl rfl (op_pure hT rfl) ?_
              refine gl_op rfl rfl rfl (op_pure hT rfl) ?_
              refine gl_op rfl rfl rfl (op_pure hT rfl) ?_
              refine gl_op rfl rfl rfl (op_pure hT rfl) ?_
              refine gl_nil ?_
              refine hK13 _ _ ?_
              clear hK13; try clear K13
              refine gc_ret ?_
              try simp only [x_then_ret, x_block_ret]
              refine gk_ret4 rfl rfl rfl rfl rfl ?_
              have hr : R = ⟨[], [], 0, 1⟩ := by rw [hR]; unfold rowV; rw [if_neg c22', if_neg (by omega), if_neg c36', if_pos (by omega)]
              rw [hr]
              exact ⟨none, 0, none, 0, _, rfl, RdE.nil _ _, RdE.nil _ _, (hS.sub (List.nil_sublist _)).keep0⟩
            · try simp only [decide_eq_true_eq, decide_eq_false_iff_not, Bool.not_eq_true', Bool.not_eq_false', Int.not_lt, Int.not_le, Nat.not_lt, Nat.not_le, Bool.true_eq, Bool.false_eq, reduceCtorEq] at c41
              refine gc_skip ?_
              refine hK3 _ _ ?_
              clear hK3; try clear K3
              refine gc_seq fun K14 hK14 => ?_
              refine gc_region ?_
              refine gl_op rfl rfl rfl (op_fieldB 0 rfl Try.underlying27 rfl el3 rfl rfl) ?_
              refine gl_op rfl rfl rfl (op_loadB 1 hT hS rfl rfl rfl rfl rfl rfl) ?_
              refine gl_op rfl rfl rfl (op_fieldB 1 rfl Try.underlying27 rfl el3 rfl rfl) ?_
              refine gl_op rfl rfl rfl (op_loadB 1 hT hS rfl rfl rfl rfl rfl rfl) ?_
              first | refine gl_fit hT rfl rfl rfl rfl (by omega) ?_ | refine gl_op rfl rfl rfl (op_pure hT rfl) ?_
              refine gl_op rfl rfl rfl (op_fieldB 2 rfl Try.underlying27 rfl el3 rfl rfl) ?_
              refine gl_op rfl rfl rfl (op_loadB 1 hT hS rfl rfl rfl rfl rfl rfl) ?_
              refine gl_fit hT rfl rfl rfl rfl (by omega) ?_
              obtain ⟨N, hN⟩ : ∃ N : Nat, s.c * s.h * s.w = N := ⟨(s.c * s.h * s.w).toNat, by omega⟩
              have hrv : rowV L lw lb lz lzb s i = (if L.k = 1 then ⟨rangeI N, (lw.drop (i * N).toNat).take N, lb.getD i.toNat 0, 0⟩ else
                  if L.k = 3 then ⟨[i], [lw.getD (spotV (outS L s) i).c.toNat 0], lb.getD (spotV (outS L s) i).c.toNat 0, 0⟩ else
                  if L.k = 6 then ⟨rangeI N, turnW (decide (i % 2 = 1)) ((lz.drop (i / 2 * N / 2).toNat).take ((N : Int) / 2).toNat), if i % 2 = 1 then (lzb.getD (i / 2).toNat (0, 0)).2 else (lzb.getD (i / 2).toNat (0, 0)).1, 0⟩ else
                  ⟨(winV_ L s (outS L s) i).map fun e => placeV s e.at_, (winV_ L s (outS L s) i).map fun e => if L.k = 2 then lw.getD (((((spotV (outS L s) i).c * s.c + e.at_.c) * L.kh + e.p) * L.kw + e.q)).toNat 0 else L.a, if L.k = 2 then lb.getD (spotV (outS L s) i).c.toNat 0 else 0, 0⟩) := by
                unfold rowV
                rw [if_neg c22', if_neg (by omega), if_neg c36', if_neg (by omega)]
                dsimp only
                rw [hN, Int.toNat_natCast]
              rw [hN]
              have hN1 : 1 ≤ N ∧ N ≤ 256 := by omega
              refine gl_op rfl rfl rfl (op_pure hT rfl) ?_
              refine gl_nil ?_
              refine hK14 _ _ ?_
              clear hK14; try clear K14
              refine gc_cut (fun a w' => ∃ g12, Fr 203 a [(2, .int .i64 i), (3, .pointer (some ⟨g3, 0, none⟩)), (4, .pointer (some ⟨g4, 0, none⟩)), (6, .slice none 0 0), (7, .slice none 0 0), (8, .float .f64 0), (10, .pointer (some ⟨g10, 0, none⟩)), (11, .int .i64 (N : Nat)), (12, .pointer (some ⟨g12, 0, none⟩))] ∧
              St w.heap.size w w' [.blk g3 32 (lyC L), .blk g4 27 (shC s), .blk g10 27 (shC (outS L s)), .blk g12 66 (spC (spotV (outS L s) i))]) ?_ ?_
              · skip
                refine gc_region ?_
                refine gl_op rfl rfl rfl (op_loadG 2 Try.underlying27 rfl el27 hS rfl rfl rfl rfl rfl) ?_
                refine gl_op rfl rfl rfl (op_pure hT rfl) ?_
                refine gl_callf rfl rfl rfl rfl Try.func26 rfl rfl rfl (spot_calls (outS L s) i _ hgo.2.1 hgo.2.2.1 ⟨by omega, by omega⟩) ?_
                rintro _ w66 ⟨rfl, hb66⟩
                refine ⟨_, rfl, ?_⟩
                have hS := hS.grown hb66
                refine gl_alloc el66 hS rfl rfl rfl rfl fun g12 w12 hS => ?_
                refine gl_storeM 3 hS el66 rfl rfl rfl rfl rfl rfl rfl rfl rfl fun wrows_go_79 hS => ?_
                refine gl_nil ?_
                intro a ha
                exact ⟨_, ha.sub ⟨rfl, rfl, rfl, rfl, rfl, rfl, rfl, rfl, rfl, trivial⟩, hS⟩
              rintro a w1 ⟨g12, hF, hS⟩
              refine gc_of hF ?_
              clear hF
              have hii : 0 ≤ i ∧ i < (outS L s).c * (outS L s).h * (outS L s).w := by omega
              have hsp := spot_bd (s := outS L s) hgo.2.1 hgo.2.2.1 hii.1 hii.2 hgo.1
              have hw2' := hw2
              generalize hse : spotV (outS L s) i = o at hS hsp hrv
              have hnW := D.nW
              have hnB := D.nB
              have hnZ := D.nZ
              have hnZB := D.nZB
              have hcW := D.cW
              have hcZ := D.cZ
              refine gc_cut (fun a w' => ∃ (A1 : Option Addr) (c1 : Nat) (A2 : Option Addr) (c2 : Nat), Fr 203 a [(6, .slice A1 R.cols.length c1), (7, .slice A2 R.w.length c2), (8, .float .f64 R.b)] ∧ R.e = 0 ∧ St w.heap.size w w' [.row A1 c1 3 1 R.cols.length (R.cols.map nV), .row A2 c2 28 1 R.w.length (R.w.map fV)]) ?_ ?_
              · skip
                refine gc_seq fun K15 hK15 => ?_
                refine gc_region ?_
                refine gl_op rfl rfl rfl (op_fieldB 0 rfl Try.underlying32 rfl el3 rfl rfl) ?_
                refine gl_op rfl rfl rfl (op_loadB 0 hT hS rfl rfl rfl rfl rfl rfl) ?_
                refine gl_nil ?_
                refine hK15 _ _ ?_
                clear hK15; try clear K15
                refine gc_block ?_
                refine gc_seq fun K16 hK16 => ?_
                refine gc_region ?_
                refine gl_op rfl rfl rfl (op_pure hT rfl) ?_
                refine gl_op rfl rfl rfl (op_pure hT rfl) ?_
                refine gl_nil ?_
                refine hK16 _ _ ?_
                clear hK16; try clear K16
                refine gc_cond rfl rfl (fun c130 => ?_) (fun c130 => ?_)
                · try simp only [decide_eq_true_eq, decide_eq_false_iff_not, Bool.not_eq_true', Bool.not_eq_false', Int.not_lt, Int.not_le, Nat.not_lt, Nat.not_le, Bool.true_eq, Bool.false_eq, reduceCtorEq] at c130
                  have hR1 : R = ⟨rangeI N, (lw.drop (i * N).toNat).take N, lb.getD i.toNat 0, 0⟩ := by rw [hR, hrv, if_pos c130]
                  have hls1 : lensV L s = (L.out * N, L.out, 0, 0) := by unfold lensV; rw [if_pos c130, hN]
                  have ho1 : outS L s = ⟨L.out, 1, 1⟩ := by unfold outS; rw [if_pos c130]
                  rw [hls1] at hw1 hw2
                  rw [ho1] at hii
                  dsimp only at hw1 hw2 hii
                  have hil : i < L.out := by omega
                  have e1 : (i + 1) * (N : Int) = i * N + N := by rw [Int.add_mul, Int.one_mul]
                  have e2 : 0 ≤ i * (N : Int) := Int.mul_nonneg hii.1 (by omega)
                  have e3 : (i + 1) * (N : Int) ≤ L.out * N := Int.mul_le_mul_of_nonneg_right (by omega) (by omega)
                  obtain ⟨adB, hAB, hcB⟩ := D.rB.at 0 (i := i) hii.1 (by omega)
                  have hSl := (D.rW.drop (k := (i * N).toNat) (cap := L.W.2.2) (by omega) D.cW).take N
                  have hSlen : ((lw.drop (i * N).toNat).take N).length = N := by rw [List.length_take, List.length_drop]; omega
                  unfold RdE at hSl
                  rw [hSlen] at hSl
                  have hRl : R.cols.length = N ∧ R.w.length = N := by rw [hR1]; exact ⟨rangeI_len N, hSlen⟩
                  refine gc_anyS hS (by kernel_rfl) rfl fun nq25 hK => ?_
                  have hS := hS.dr nq25
                  refine ga_take 0 rfl rfl rfl rfl (by kernel_rfl) (fun _ _ _ _ _ h => h) hK (fun w1 hS => op_pure hT rfl) ?_
                  refine ga_take 2 rfl rfl rfl rfl (by kernel_rfl) (fun _ _ _ _ _ h => h) hK (fun w1 hS => op_fieldB 10 rfl Try.underlying32 rfl el29 rfl rfl) ?_
                  refine ga_take 3 rfl rfl rfl rfl (by kernel_rfl) (fun _ _ _ _ _ h => h) hK (fun w1 hS => op_loadB 0 hT hS rfl rfl rfl rfl rfl rfl) ?_
                  refine ga_take 4 rfl rfl rfl rfl (by kernel_rfl) (fun _ _ _ _ _ h => h) hK (fun w1 hS => op_pure hT rfl) ?_
                  refine ga_take 5 rfl rfl rfl rfl (by kernel_rfl) (fun _ _ _ _ _ h => h) hK (fun w1 hS => op_pure hT rfl) ?_
                  refine ga_take 6 rfl rfl rfl rfl (by kernel_rfl) (fun _ _ _ _ _ h => h) hK (fun w1 hS => (by first | exact op_fit hT rfl (by omega) | exact op_pure hT rfl)) ?_
                  refine ga_take 7 rfl rfl rfl rfl (by kernel_rfl) (fun _ _ _ _ _ h => h) hK (fun w1 hS => op_pure hT rfl) ?_
                  refine ga_take 8 rfl rfl rfl rfl (by kernel_rfl) (fun _ _ _ _ _ h => h) hK (fun w1 hS => (by first | exact op_fit hT rfl (by omega) | exact op_pure hT rfl)) ?_
                  refine ga_take 9 rfl rfl rfl rfl (by kernel_rfl) (fun _ _ _ _ _ h => h) hK (fun w1 hS => op_pure hT rfl) ?_
                  refine ga_take 10 rfl rfl rfl rfl (by kernel_rfl) (fun _ _ _ _ _ h => h) hK (fun w1 hS => (by first | exact op_fit hT rfl (by omega) | exact op_pure hT rfl)) ?_
                  refine ga_take 11 rfl rfl rfl rfl (by kernel_rfl) (fun _ _ _ _ _ h => h) hK (fun w1 hS => op_slice_lh hT el28 rfl rfl rfl rfl rfl (by omega) (by omega) (by omega)) ?_
                  refine ga_spell 143 (v := .slice (if L.W.2.2 = (i * (N : Int)).toNat then L.W.1 else L.W.1.map (·.add ((i * (N : Int)).toNat * 1))) N (L.W.2.2 - (i * (N : Int)).toNat)) rfl (by rw [show ((i + 1) * (N : Int)).toNat - (i * (N : Int)).toNat = N by omega]) ?_
                  refine ga_take 13 rfl rfl rfl rfl (by kernel_rfl) (fun _ _ _ _ _ h => h) hK (fun w1 hS => op_fieldB 11 rfl Try.underlying32 rfl el29 rfl rfl) ?_
                  refine ga_take 14 rfl rfl rfl rfl (by kernel_rfl) (fun _ _ _ _ _ h => h) hK (fun w1 hS => op_loadB 0 hT hS rfl rfl rfl rfl rfl rfl) ?_
                  refine ga_take 15 rfl rfl rfl rfl (by kernel_rfl) (fun _ _ _ _ _ h => h) hK (fun w1 hS => op_pure hT rfl) ?_
                  refine ga_take 16 rfl rfl rfl rfl (by kernel_rfl) (fun _ _ _ _ _ h => h) hK (fun w1 hS => op_indexAddr hT rfl rfl el28.cellsOf.1 el28.cellsOf.2 rfl rfl hii.1 (by omega) hAB) ?_
                  refine ga_take 17 rfl rfl rfl rfl (by kernel_rfl) (fun _ _ _ _ _ h => h) hK (fun w1 hS => op_load hT rfl rfl rfl rfl (cellOf hS.below hcB)) ?_
                  refine ga_one 1 (by kernel_rfl) rfl ?_
                  refine gl_callf rfl rfl rfl rfl Try.func27 rfl rfl rfl (all_calls N (by omega) _) ?_
                  rintro _ w133 ⟨A133, c133, rfl, hr133, hb133⟩
                  refine ⟨_, rfl, ?_⟩
                  have hS := hS.addRow hb133 hr133
                  refine gl_nil ?_
                  refine ga_next (hS.pre 4) fun hK => ?_
                  refine ga_one 12 (by kernel_rfl) rfl ?_
                  refine gl_callf rfl rfl rfl rfl Try.func28 rfl rfl rfl (cloneF_calls _ N _ ((lw.drop (i * N).toNat).take N) _ (hSl.old (by decide) hS) (by omega)) ?_
                  rintro _ w144 ⟨A144, c144, rfl, hr144, hb144⟩
                  refine ⟨_, rfl, ?_⟩
                  have hS := hS.addRow hb144 hr144
                  refine gl_nil ?_
                  refine ga_next (hS.pre 4) fun hK => ?_
                  refine ga_take 18 rfl rfl rfl rfl (by kernel_rfl) (fun _ _ _ _ _ h => h) hK (fun w1 hS => op_pure hT rfl) ?_
                  refine ga_take 19 rfl rfl rfl rfl (by kernel_rfl) (fun _ _ _ _ _ h => h) hK (fun w1 hS => op_pure hT rfl) ?_
                  refine ga_take 20 rfl rfl rfl rfl (by kernel_rfl) (fun _ _ _ _ _ h => h) hK (fun w1 hS => op_pure hT rfl) ?_
                  refine ga_done (by kernel_rfl) ?_
                  intro a ha
                  have hS := hS.sub (List.drop_sublist 4 _)
                  show ∃ (A1 : Option Addr) (c1 : Nat) (A2 : Option Addr) (c2 : Nat), Fr 203 a [(6, .slice A1 R.cols.length c1), (7, .slice A2 R.w.length c2), (8, .float .f64 R.b)] ∧ R.e = 0 ∧ St w.heap.size w _ [.row A1 c1 3 1 R.cols.length (R.cols.map nV), .row A2 c2 28 1 R.w.length (R.w.map fV)]
                  first
                    | (rw [hRl.1, hRl.2, hR1]
                       first
                         | exact ⟨_, _, _, _, ha.sub ⟨rfl, rfl, rfl, trivial⟩, rfl, hS⟩
                         | exact ⟨_, _, _, _, ha.sub ⟨rfl, rfl, rfl, trivial⟩, rfl, hS.perm (List.Perm.swap ..)⟩)
                    | (rw [hRl.1, hR1]
                       exact ⟨_, _, _, _, ha.sub ⟨rfl, rfl, rfl, trivial⟩, rfl, hS⟩)
                · try simp only [decide_eq_true_eq, decide_eq_false_iff_not, Bool.not_eq_true', Bool.not_eq_false', Int.not_lt, Int.not_le, Nat.not_lt, Nat.not_le, Bool.true_eq, Bool.false_eq, reduceCtorEq] at c130
                  refine gc_seq fun K17 hK17 => ?_
                  refine gc_region ?_
                  refine gl_op rfl rfl rfl (op_pure hT rfl) ?_
                  refine gl_op rfl rfl rfl (op_pure hT rfl) ?_
                  refine gl_nil ?_
                  refine hK17 _ _ ?_
                  clear hK17; try clear K17
                  refine gc_cond rfl rfl (fun c150 => ?_) (fun c150 => ?_)
                  · try simp only [decide_eq_true_eq, decide_eq_false_iff_not, Bool.not_eq_true', Bool.not_eq_false', Int.not_lt, Int.not_le, Nat.not_lt, Nat.not_le, Bool.true_eq, Bool.false_eq, reduceCtorEq] at c150
                    have hR1 : R = ⟨[i], [lw.getD o.c.toNat 0], lb.getD o.c.toNat 0, 0⟩ := by rw [hR, hrv, if_neg c130, if_pos c150]
                    have hls1 : lensV L s = (s.c, s.c, 0, 0) := by unfold lensV; rw [if_neg c130, if_neg (by omega), if_pos c150]
                    have ho1 : outS L s = s := by unfold outS; rw [if_neg c130, if_neg (show ¬ L.k = 6 by omega), if_neg (show ¬ winV L.k by unfold winV; omega)]
                    rw [hls1] at hw1 hw2
                    rw [ho1] at hsp
                    dsimp only at hw1 hw2
                    obtain ⟨adB, hAB, hcB⟩ := D.rB.at 0 (i := o.c) hsp.1.1 (by omega)
                    obtain ⟨adW, hAW, hcW2⟩ := D.rW.at 0 (i := o.c) hsp.1.1 (by omega)
                    have hRl : R.cols.length = 1 ∧ R.w.length = 1 := by rw [hR1]; exact ⟨rfl, rfl⟩
                    refine gc_anyS hS (by kernel_rfl) rfl fun nq27 hK => ?_
                    have hS := hS.dr nq27
                    refine ga_take 0 rfl rfl rfl rfl (by kernel_rfl) (fun _ _ _ _ _ h => h) hK (fun w1 hS => op_pure hT rfl) ?_
                    refine ga_take 2 rfl rfl rfl rfl (by kernel_rfl) (fun _ _ _ _ _ h => h) hK (fun w1 hS => op_fieldB 10 rfl Try.underlying32 rfl el29 rfl rfl) ?_
                    refine ga_take 3 rfl rfl rfl rfl (by kernel_rfl) (fun _ _ _ _ _ h => h) hK (fun w1 hS => op_loadB 0 hT hS rfl rfl rfl rfl rfl rfl) ?_
                    refine ga_take 4 rfl rfl rfl rfl (by kernel_rfl) (fun _ _ _ _ _ h => h) hK (fun w1 hS => op_ixA (j := 0) rfl Try.underlying66 el3 rfl rfl (by decide) (by decide) rfl) ?_
                    refine ga_take 5 rfl rfl rfl rfl (by kernel_rfl) (fun _ _ _ _ _ h => h) hK (fun w1 hS => op_loadB 3 hT hS rfl rfl rfl rfl rfl rfl) ?_
                    refine ga_take 6 rfl rfl rfl rfl (by kernel_rfl) (fun _ _ _ _ _ h => h) hK (fun w1 hS => op_indexAddr hT rfl rfl el28.cellsOf.1 el28.cellsOf.2 rfl rfl hsp.1.1 (by omega) hAW) ?_
                    refine ga_take 7 rfl rfl rfl rfl (by kernel_rfl) (fun _ _ _ _ _ h => h) hK (fun w1 hS => op_load hT rfl rfl rfl rfl (cellOf hS.below hcW2)) ?_
                    refine ga_take 9 rfl rfl rfl rfl (by kernel_rfl) (fun _ _ _ _ _ h => h) hK (fun w1 hS => op_fieldB 11 rfl Try.underlying32 rfl el29 rfl rfl) ?_
                    refine ga_take 10 rfl rfl rfl rfl (by kernel_rfl) (fun _ _ _ _ _ h => h) hK (fun w1 hS => op_loadB 0 hT hS rfl rfl rfl rfl rfl rfl) ?_
                    refine ga_take 11 rfl rfl rfl rfl (by kernel_rfl) (fun _ _ _ _ _ h => h) hK (fun w1 hS => op_ixA (j := 0) rfl Try.underlying66 el3 rfl rfl (by decide) (by decide) rfl) ?_
                    refine ga_take 12 rfl rfl rfl rfl (by kernel_rfl) (fun _ _ _ _ _ h => h) hK (fun w1 hS => op_loadB 3 hT hS rfl rfl rfl rfl rfl rfl) ?_
                    refine ga_take 13 rfl rfl rfl rfl (by kernel_rfl) (fun _ _ _ _ _ h => h) hK (fun w1 hS => op_indexAddr hT rfl rfl el28.cellsOf.1 el28.cellsOf.2 rfl rfl hsp.1.1 (by omega) hAB) ?_
                    refine ga_take 14 rfl rfl rfl rfl (by kernel_rfl) (fun _ _ _ _ _ h => h) hK (fun w1 hS => op_load hT rfl rfl rfl rfl (cellOf hS.below hcB)) ?_
                    refine ga_two 1 8 (by kernel_rfl) rfl rfl ?_ ?_
                    · skip
                      refine gl_lit hT hS el3 rfl rfl rfl rfl rfl rfl rfl rfl rfl fun g153 w153 hS => ?_
                      refine gl_nil ?_
                      refine ga_next (hS.pre 4) fun hK => ?_
                      refine ga_take 15 rfl rfl rfl rfl (by kernel_rfl) (fun _ _ _ _ _ h => h) hK (fun w1 hS => op_pure hT rfl) ?_
                      refine ga_one 8 (by kernel_rfl) rfl ?_
                      refine gl_lit hT hS el28 rfl rfl rfl rfl rfl rfl rfl rfl rfl fun g160 w160 hS => ?_
                      refine gl_nil ?_
                      refine ga_next (hS.pre 4) fun hK => ?_
                      refine ga_take 16 rfl rfl rfl rfl (by kernel_rfl) (fun _ _ _ _ _ h => h) hK (fun w1 hS => op_pure hT rfl) ?_
                      refine ga_take 17 rfl rfl rfl rfl (by kernel_rfl) (fun _ _ _ _ _ h => h) hK (fun w1 hS => op_pure hT rfl) ?_
                      refine ga_done (by kernel_rfl) ?_
                      intro a ha
                      have hS := hS.sub (List.drop_sublist 4 _)
                      show ∃ (A1 : Option Addr) (c1 : Nat) (A2 : Option Addr) (c2 : Nat), Fr 203 a [(6, .slice A1 R.cols.length c1), (7, .slice A2 R.w.length c2), (8, .float .f64 R.b)] ∧ R.e = 0 ∧ St w.heap.size w _ [.row A1 c1 3 1 R.cols.length (R.cols.map nV), .row A2 c2 28 1 R.w.length (R.w.map fV)]
                      first
                        | (rw [hRl.1, hRl.2, hR1]
                           first
                             | exact ⟨_, _, _, _, ha.sub ⟨rfl, rfl, rfl, trivial⟩, rfl, hS⟩
                             | exact ⟨_, _, _, _, ha.sub ⟨rfl, rfl, rfl, trivial⟩, rfl, hS.perm (List.Perm.swap ..)⟩)
                        | (rw [hRl.1, hR1]
                           exact ⟨_, _, _, _, ha.sub ⟨rfl, rfl, rfl, trivial⟩, rfl, hS⟩)
                    · skip
                      refine gl_lit hT hS el28 rfl rfl rfl rfl rfl rfl rfl rfl rfl fun g160 w160 hS => ?_
                      refine gl_nil ?_
                      refine ga_next (hS.pre 4) fun hK => ?_
                      refine ga_one 1 (by kernel_rfl) rfl ?_
                      refine gl_lit hT hS el3 rfl rfl rfl rfl rfl rfl rfl rfl rfl fun g153 w153 hS => ?_
                      refine gl_nil ?_
                      refine ga_next (hS.pre 4) fun hK => ?_
                      refine ga_take 15 rfl rfl rfl rfl (by kernel_rfl) (fun _ _ _ _ _ h => h) hK (fun w1 hS => op_pure hT rfl) ?_
                      refine ga_take 16 rfl rfl rfl rfl (by kernel_rfl) (fun _ _ _ _ _ h => h) hK (fun w1 hS => op_pure hT rfl) ?_
                      refine ga_take 17 rfl rfl rfl rfl (by kernel_rfl) (fun _ _ _ _ _ h => h) hK (fun w1 hS => op_pure hT rfl) ?_
                      refine ga_done (by kernel_rfl) ?_
                      intro a ha
                      have hS := hS.sub (List.drop_sublist 4 _)
                      show ∃ (A1 : Option Addr) (c1 : Nat) (A2 : Option Addr) (c2 : Nat), Fr 203 a [(6, .slice A1 R.cols.length c1), (7, .slice A2 R.w.length c2), (8, .float .f64 R.b)] ∧ R.e = 0 ∧ St w.heap.size w _ [.row A1 c1 3 1 R.cols.length (R.cols.map nV), .row A2 c2 28 1 R.w.length (R.w.map fV)]
                      first
                        | (rw [hRl.1, hRl.2, hR1]
                           first
                             | exact ⟨_, _, _, _, ha.sub ⟨rfl, rfl, rfl, trivial⟩, rfl, hS⟩
                             | exact ⟨_, _, _, _, ha.sub ⟨rfl, rfl, rfl, trivial⟩, rfl, hS.perm (List.Perm.swap ..)⟩)
                        | (rw [hRl.1, hR1]
                           exact ⟨_, _, _, _, ha.sub ⟨rfl, rfl, rfl, trivial⟩, rfl, hS⟩)
                  · try simp only [decide_eq_true_eq, decide_eq_false_iff_not, Bool.not_eq_true', Bool.not_eq_false', Int.not_lt, Int.not_le, Nat.not_lt, Nat.not_le, Bool.true_eq, Bool.false_eq, reduceCtorEq] at c150
                    refine gc_seq fun K18 hK18 => ?_
                    refine gc_region ?_
                    refine gl_op rfl rfl rfl (op_pure hT rfl) ?_
                    refine gl_op rfl rfl rfl (op_pure hT rfl) ?_
                    refine gl_nil ?_
                    refine hK18 _ _ ?_
                    clear hK18; try clear K18
                    refine gc_cond rfl rfl (fun c167 => ?_) (fun c167 => ?_)
                    · try simp only [decide_eq_true_eq, decide_eq_false_iff_not, Bool.not_eq_true', Bool.not_eq_false', Int.not_lt, Int.not_le, Nat.not_lt, Nat.not_le, Bool.true_eq, Bool.false_eq, reduceCtorEq] at c167
                      have hR1 : R = ⟨rangeI N, turnW (decide (i % 2 = 1)) ((lz.drop (i / 2 * N / 2).toNat).take ((N : Int) / 2).toNat), if decide (i % 2 = 1) then (lzb.getD (i / 2).toNat (0, 0)).2 else (lzb.getD (i / 2).toNat (0, 0)).1, 0⟩ := by rw [hR, hrv, if_neg c130, if_neg c150, if_pos c167]; by_cases hpar : i % 2 = 1 <;> simp [hpar]
                      have hls1 : lensV L s = (0, 0, L.out * N / 2, L.out) := by unfold lensV; rw [if_neg c130, if_neg (by omega), if_neg c150, if_pos c167, hN]
                      have ho1 : outS L s = ⟨2 * L.out, 1, 1⟩ := by unfold outS; rw [if_neg c130, if_pos c167]
                      rw [hls1] at hw3 hw4
                      rw [ho1] at hii
                      dsimp only at hw3 hw4 hii
                      have hil : i < 2 * L.out := by omega
                      rw [hN] at hn6
                      obtain ⟨M, hM⟩ : ∃ M : Nat, N = 2 * M := ⟨N / 2, by omega⟩
                      have hNM : ((N : Nat) : Int) = 2 * (M : Int) := by omega
                      have e1 : (i / 2 + 1) * (N : Int) = i / 2 * N + N := by rw [Int.add_mul, Int.one_mul]
                      have e2 : 0 ≤ i / 2 * (M : Int) := Int.mul_nonneg (by omega) (by omega)
                      have e3 : (i / 2 + 1) * (M : Int) ≤ L.out * M := Int.mul_le_mul_of_nonneg_right (by omega) (by omega)
                      have e4 : (i / 2 + 1) * (M : Int) = i / 2 * M + M := by rw [Int.add_mul, Int.one_mul]
                      have e5 : i / 2 * (N : Int) = 2 * (i / 2 * M) := by rw [hNM, Int.mul_left_comm]
                      have e6 : L.out * (N : Int) = 2 * (L.out * M) := by rw [hNM, Int.mul_left_comm]
                      obtain ⟨adB, hAB, hcB⟩ := D.rZB.at (0, 0) (i := i / 2) (by omega) (by omega)
                      have hSl := (D.rZ.drop (k := (i / 2 * N / 2).toNat) (cap := L.Z.2.2) (by omega) D.cZ).take ((N : Int) / 2).toNat
                      have hSlen : ((lz.drop (i / 2 * N / 2).toNat).take ((N : Int) / 2).toNat).length = M := by rw [List.length_take, List.length_drop]; omega
                      have hRl : R.cols.length = N ∧ R.w.length = N := by rw [hR1]; exact ⟨rangeI_len N, by show (turnW _ _).length = N; rw [turnW_len, hSlen]; omega⟩
                      have hSf : ∀ x ∈ (lz.drop (i / 2 * N / 2).toNat).take ((N : Int) / 2).toNat, x.2 < 18446744073709551616 := fun x hx => D.fz x (List.mem_of_mem_drop (List.mem_of_mem_take hx))
                      generalize hzl : (lz.drop (i / 2 * N / 2).toNat).take ((N : Int) / 2).toNat = zl at hSl hSlen hR1 hSf
                      refine gc_seq fun K19 hK19 => ?_
                      refine gc_region ?_
                      refine gl_op rfl rfl rfl (op_pure hT rfl) ?_
                      refine gl_callf rfl rfl rfl rfl Try.func27 rfl rfl rfl (all_calls N (by omega) _) ?_
                      rintro _ w170 ⟨A170, c170, rfl, hr170, hb170⟩
                      refine ⟨_, rfl, ?_⟩
                      have hS := hS.addRow hb170 hr170
                      refine gl_op rfl rfl rfl (op_pure hT rfl) ?_
                      refine gl_nil ?_
                      refine hK19 _ _ ?_
                      clear hK19; try clear K19
                      refine gc_anyS hS (by kernel_rfl) rfl fun nq30 hK => ?_
                      have hS := hS.dr nq30
                      refine ga_take 0 rfl rfl rfl rfl (by kernel_rfl) (fun _ _ _ _ _ h => h) hK (fun w1 hS => op_fieldB 12 rfl Try.underlying32 rfl el30 rfl rfl) ?_
                      refine ga_take 1 rfl rfl rfl rfl (by kernel_rfl) (fun _ _ _ _ _ h => h) hK (fun w1 hS => op_loadB 0 hT hS rfl rfl rfl rfl rfl rfl) ?_
                      refine ga_take 2 rfl rfl rfl rfl (by kernel_rfl) (fun _ _ _ _ _ h => h) hK (fun w1 hS => op_pure hT rfl) ?_
                      refine ga_take 3 rfl rfl rfl rfl (by kernel_rfl) (fun _ _ _ _ _ h => h) hK (fun w1 hS => (by first | exact op_quo hT rfl (by omega) (by omega) | exact op_pure hT rfl | exact op_quoS rfl rfl rfl (by omega) (by omega))) ?_
                      refine ga_take 4 rfl rfl rfl rfl (by kernel_rfl) (fun _ _ _ _ _ h => h) hK (fun w1 hS => op_pure hT rfl) ?_
                      refine ga_take 5 rfl rfl rfl rfl (by kernel_rfl) (fun _ _ _ _ _ h => h) hK (fun w1 hS => (by first | exact op_fit hT rfl (by omega) | exact op_pure hT rfl)) ?_
                      refine ga_take 6 rfl rfl rfl rfl (by kernel_rfl) (fun _ _ _ _ _ h => h) hK (fun w1 hS => (by first | exact op_quo hT rfl (by omega) (by omega) | exact op_pure hT rfl | exact op_quoS rfl rfl rfl (by omega) (by omega))) ?_
                      refine ga_take 7 rfl rfl rfl rfl (by kernel_rfl) (fun _ _ _ _ _ h => h) hK (fun w1 hS => op_pure hT rfl) ?_
                      refine ga_take 8 rfl rfl rfl rfl (by kernel_rfl) (fun _ _ _ _ _ h => h) hK (fun w1 hS => (by first | exact op_quo hT rfl (by omega) (by omega) | exact op_pure hT rfl | exact op_quoS rfl rfl rfl (by omega) (by omega))) ?_
                      refine ga_take 9 rfl rfl rfl rfl (by kernel_rfl) (fun _ _ _ _ _ h => h) hK (fun w1 hS => (by first | exact op_fit hT rfl (by omega) | exact op_pure hT rfl)) ?_
                      refine ga_take 10 rfl rfl rfl rfl (by kernel_rfl) (fun _ _ _ _ _ h => h) hK (fun w1 hS => op_pure hT rfl) ?_
                      refine ga_take 11 rfl rfl rfl rfl (by kernel_rfl) (fun _ _ _ _ _ h => h) hK (fun w1 hS => (by first | exact op_fit hT rfl (by omega) | exact op_pure hT rfl)) ?_
                      refine ga_take 12 rfl rfl rfl rfl (by kernel_rfl) (fun _ _ _ _ _ h => h) hK (fun w1 hS => (by first | exact op_quo hT rfl (by omega) (by omega) | exact op_pure hT rfl | exact op_quoS rfl rfl rfl (by omega) (by omega))) ?_
                      refine ga_take 13 rfl rfl rfl rfl (by kernel_rfl) (fun _ _ _ _ _ h => h) hK (fun w1 hS => op_slice_lh hT el52 rfl rfl rfl rfl rfl (by omega) (by omega) (by omega)) ?_
                      refine ga_spell 185 (v := .slice (if L.Z.2.2 = (i / 2 * (N : Int) / 2).toNat then L.Z.1 else L.Z.1.map (·.add ((i / 2 * (N : Int) / 2).toNat * 1))) M (L.Z.2.2 - (i / 2 * (N : Int) / 2).toNat)) rfl (by rw [show ((i / 2 + 1) * (N : Int) / 2).toNat - (i / 2 * (N : Int) / 2).toNat = M by omega]) ?_
                      refine ga_take 14 rfl rfl rfl rfl (by kernel_rfl) (fun _ _ _ _ _ h => h) hK (fun w1 hS => op_fieldB 13 rfl Try.underlying32 rfl el30 rfl rfl) ?_
                      refine ga_take 15 rfl rfl rfl rfl (by kernel_rfl) (fun _ _ _ _ _ h => h) hK (fun w1 hS => op_loadB 0 hT hS rfl rfl rfl rfl rfl rfl) ?_
                      refine ga_take 16 rfl rfl rfl rfl (by kernel_rfl) (fun _ _ _ _ _ h => h) hK (fun w1 hS => op_pure hT rfl) ?_
                      refine ga_take 17 rfl rfl rfl rfl (by kernel_rfl) (fun _ _ _ _ _ h => h) hK (fun w1 hS => (by first | exact op_quo hT rfl (by omega) (by omega) | exact op_pure hT rfl | exact op_quoS rfl rfl rfl (by omega) (by omega))) ?_
                      refine ga_take 18 rfl rfl rfl rfl (by kernel_rfl) (fun _ _ _ _ _ h => h) hK (fun w1 hS => op_indexAddr hT rfl rfl el52.cellsOf.1 el52.cellsOf.2 rfl rfl (by omega) (by omega) hAB) ?_
                      refine ga_take 19 rfl rfl rfl rfl (by kernel_rfl) (fun _ _ _ _ _ h => h) hK (fun w1 hS => op_load hT rfl rfl rfl rfl (cellOf hS.below hcB)) ?_
                      refine ga_take 20 rfl rfl rfl rfl (by kernel_rfl) (fun _ _ _ _ _ h => h) hK (fun w1 hS => op_pure hT rfl) ?_
                      refine ga_take 21 rfl rfl rfl rfl (by kernel_rfl) (fun _ _ _ _ _ h => h) hK (fun w1 hS => (by first | exact op_rem hT rfl (by omega) | exact op_pure hT rfl | exact op_remS rfl rfl rfl (by omega) (by omega))) ?_
                      refine ga_take 22 rfl rfl rfl rfl (by kernel_rfl) (fun _ _ _ _ _ h => h) hK (fun w1 hS => op_pure hT rfl) ?_
                      refine ga_one 23 (by kernel_rfl) rfl ?_
                      refine gl_callf rfl rfl rfl rfl Try.func29 rfl rfl rfl (turnN_calls _ M _ zl _ _ _ (hSl.old hS) hSlen.symm (by omega) hSf) ?_
                      rintro _ w195 ⟨A195, c195, rfl, hr195, hb195⟩
                      refine ⟨_, rfl, ?_⟩
                      have hS := hS.addRow hb195 hr195
                      refine gl_nil ?_
                      refine ga_next (hS.pre 5) fun hK => ?_
                      refine ga_take 24 rfl rfl rfl rfl (by kernel_rfl) (fun _ _ _ _ _ h => h) hK (fun w1 hS => op_pure hT rfl) ?_
                      refine ga_take 25 rfl rfl rfl rfl (by kernel_rfl) (fun _ _ _ _ _ h => h) hK (fun w1 hS => op_pure hT rfl) ?_
                      refine ga_take 26 rfl rfl rfl rfl (by kernel_rfl) (fun _ _ _ _ _ h => h) hK (fun w1 hS => op_pure hT rfl) ?_
                      refine ga_take 27 rfl rfl rfl rfl (by kernel_rfl) (fun _ _ _ _ _ h => h) hK (fun w1 hS => op_pure hT rfl) ?_
                      refine ga_take 28 rfl rfl rfl rfl (by kernel_rfl) (fun _ _ _ _ _ h => h) hK (fun w1 hS => op_pure hT rfl) ?_
                      refine ga_done (by kernel_rfl) ?_
                      intro a ha
                      have hS := hS.sub (List.drop_sublist 4 _)
                      show ∃ (A1 : Option Addr) (c1 : Nat) (A2 : Option Addr) (c2 : Nat), Fr 203 a [(6, .slice A1 R.cols.length c1), (7, .slice A2 R.w.length c2), (8, .float .f64 R.b)] ∧ R.e = 0 ∧ St w.heap.size w _ [.row A1 c1 3 1 R.cols.length (R.cols.map nV), .row A2 c2 28 1 R.w.length (R.w.map fV)]
                      first
                        | (rw [hRl.1, hRl.2, hR1]
                           first
                             | exact ⟨_, _, _, _, ha.sub ⟨rfl, rfl, rfl, trivial⟩, rfl, hS⟩
                             | exact ⟨_, _, _, _, ha.sub ⟨rfl, rfl, rfl, trivial⟩, rfl, hS.perm (List.Perm.swap ..)⟩)
                        | (rw [hRl.1, hR1]
                           exact ⟨_, _, _, _, ha.sub ⟨rfl, rfl, rfl, trivial⟩, rfl, hS⟩)
                    · try simp only [decide_eq_true_eq, decide_eq_false_iff_not, Bool.not_eq_true', Bool.not_eq_false', Int.not_lt, Int.not_le, Nat.not_lt, Nat.not_le, Bool.true_eq, Bool.false_eq, reduceCtorEq] at c167
                      have hk24 : L.k = 2 ∨ L.k = 4 := by omega
                      have hwn := fld_win hfo (by unfold winV; omega)
                      have hWk : WinOk L s := ⟨by unfold winV; omega, hwn.1, hwn.2.1, hwn.2.2.1, hwn.2.2.2.1, by omega, by omega, hgs.1, hgs.2.1, hgs.2.2.1⟩
                      obtain ⟨ws, hws⟩ : ∃ ws, ws = winV_ L s (outS L s) i := ⟨_, rfl⟩
                      obtain ⟨fw, hfw⟩ : ∃ fw : Se → Nat, fw = fun e => if L.k = 2 then lw.getD (((o.c * s.c + e.at_.c) * L.kh + e.p) * L.kw + e.q).toNat 0 else L.a := ⟨_, rfl⟩
                      have hR1 : R = ⟨ws.map fun e => placeV s e.at_, ws.map fw, if L.k = 2 then lb.getD o.c.toNat 0 else 0, 0⟩ := by rw [hR, hrv, if_neg c130, if_neg c150, if_neg c167, hws, hfw]
                      have hRl : R.cols.length = ws.length ∧ R.w.length = ws.length := by rw [hR1]; exact ⟨List.length_map _, List.length_map _⟩
                      have hwm : ∀ x ∈ ws, (0 ≤ x.at_.c ∧ x.at_.c < s.c) ∧ (0 ≤ x.at_.y ∧ x.at_.y < s.h) ∧ (0 ≤ x.at_.x ∧ x.at_.x < s.w) ∧ (0 ≤ x.p ∧ x.p < L.kh) ∧ (0 ≤ x.q ∧ x.q < L.kw) := by
                        intro x hx
                        rw [hws] at hx
                        unfold winV_ at hx
                        rw [hse] at hx
                        by_cases h2 : L.k = 2
                        · rw [if_pos h2] at hx
                          have := win_mem hx
                          omega
                        · rw [if_neg h2] at hx
                          have := win_mem hx
                          have ho4 : (outS L s).c = s.c := by unfold outS; rw [if_neg c130, if_neg c167, if_pos (show winV L.k by unfold winV; omega)]; dsimp only; rw [if_neg h2]
                          omega
                      have hwl : ws.length ≤ 65536 := by
                        rw [hws]
                        unfold winV_
                        have h16 : L.kh.toNat * L.kw.toNat ≤ 16 * 16 := Nat.mul_le_mul (by omega) (by omega)
                        split
                        · have h17 := Nat.mul_le_mul (show s.c.toNat ≤ 256 by omega) h16; have h18 := winC_le L s (spotV (outS L s) i) 0 s.c.toNat; omega
                        · have h18 := winC_le L s (spotV (outS L s) i) (spotV (outS L s) i).c.toNat 1; omega
                      have hlt : ∀ x ∈ ws, L.k = 2 → 0 ≤ o.c * s.c + x.at_.c ∧ o.c * s.c + x.at_.c ≤ 65536 ∧ 0 ≤ o.c * s.c ∧ o.c * s.c ≤ 65536 ∧ 0 ≤ (o.c * s.c + x.at_.c) * L.kh ∧ (o.c * s.c + x.at_.c) * L.kh + x.p ≤ 1048576 ∧ 0 ≤ ((o.c * s.c + x.at_.c) * L.kh + x.p) * L.kw ∧ ((o.c * s.c + x.at_.c) * L.kh + x.p) * L.kw + x.q < lw.length := by
                        intro x hx h2
                        have hx := hwm x hx
                        have hls1 : lensV L s = (L.out * s.c * L.kh * L.kw, L.out, 0, 0) := by unfold lensV; rw [if_neg c130, if_pos h2]
                        have ho4 : (outS L s).c = L.out := by unfold outS; rw [if_neg c130, if_neg c167, if_pos (show winV L.k by unfold winV; omega)]; dsimp only; rw [if_pos h2]
                        rw [hls1] at hw1
                        dsimp only at hw1
                        rw [ho4] at hsp
                        have q1 := ix_bd hsp.1.1 hsp.1.2 hx.1.1 hx.1.2
                        have q2 := ix_bd q1.1 q1.2 hx.2.2.2.1.1 hx.2.2.2.1.2
                        have q3 := ix_bd q2.1 q2.2 hx.2.2.2.2.1 hx.2.2.2.2.2
                        have r1 := mul_bd0 (a := L.out) (b := s.c) (A := 256) (B := 256) (by omega) (by omega) (by omega) (by omega)
                        have r2 := mul_bd0 (a := L.out * s.c) (b := L.kh) (A := 65536) (B := 16) (by omega) (by omega) (by omega) (by omega)
                        have r3 := mul_bd0 (a := o.c) (b := s.c) (A := 256) (B := 256) (by omega) (by omega) (by omega) (by omega)
                        have r4 := mul_bd0 (a := o.c * s.c + x.at_.c) (b := L.kh) (A := 65536) (B := 16) (by omega) (by omega) (by omega) (by omega)
                        have r5 := mul_bd0 (a := (o.c * s.c + x.at_.c) * L.kh + x.p) (b := L.kw) (A := 1048576) (B := 16) (by omega) (by omega) (by omega) (by omega)
                        omega
                      refine gc_seq fun K20 hK20 => ?_
                      refine gc_seq fun K21 hK21 => ?_
                      refine gc_region ?_
                      refine gl_op rfl rfl rfl (op_loadG 0 Try.underlying32 rfl el32 hS rfl rfl rfl rfl rfl) ?_
                      refine gl_op rfl rfl rfl (op_loadG 1 Try.underlying27 rfl el27 hS rfl rfl rfl rfl rfl) ?_
                      refine gl_op rfl rfl rfl (op_loadG 2 Try.underlying27 rfl el27 hS rfl rfl rfl rfl rfl) ?_
                      refine gl_op rfl rfl rfl (op_pure hT rfl) ?_
                      refine gl_callf rfl rfl rfl rfl Try.func30 rfl rfl rfl (window_calls L s (outS L s) i _ hWk hgo.1 hgo.2.1 hgo.2.2.1 hii hgo.2.2.2.2) ?_
                      rintro _ w73 ⟨A73, c73, rfl, hr73, hb73⟩
                      refine ⟨_, rfl, ?_⟩
                      have hS := hS.addRow hb73 hr73
                      refine gl_op rfl rfl rfl (op_pure hT rfl) ?_
                      refine gl_op rfl rfl rfl (op_pure hT rfl) ?_
                      refine gl_nil ?_
                      refine hK21 _ _ ?_
                      clear hK21; try clear K21
                      refine gc_block ?_
                      rw [← hws] at hr73
                      have hS : St w.heap.size w _ [.blk g3 32 (lyC L), .blk g4 27 (shC s), .blk g10 27 (shC (outS L s)), .blk g12 66 (spC o), .row A73 c73 75 5 (winV_ L s (outS L s) i).length ((winV_ L s (outS L s) i).map seC).flatten] := hS
                      rw [← hws] at hS ⊢
                      have hS := (hS.nil 3 1).nil 28 1
                      refine gc_loop (fun k a w' => ∃ (j : Nat) (A1 : Option Addr) (c1 : Nat) (A2 : Option Addr) (c2 : Nat), Fr 203 a [(3, .pointer (some ⟨g3, 0, none⟩)), (4, .pointer (some ⟨g4, 0, none⟩)), (6, .slice A1 (ws.take j).length c1), (7, .slice A2 (ws.take j).length c2), (8, .float .f64 0), (12, .pointer (some ⟨g12, 0, none⟩)), (73, .slice A73 ws.length c73), (74, .int .i64 (ws.length : Nat)), (75, .int .i64 (j : Nat))] ∧ j ≤ ws.length ∧ k = ws.length + 1 - j ∧
                        St w.heap.size w w' [.blk g3 32 (lyC L), .blk g4 27 (shC s), .blk g10 27 (shC (outS L s)), .blk g12 66 (spC o), .row A73 c73 75 5 ws.length (ws.map seC).flatten,
                          .row A1 c1 3 1 (ws.take j).length (((ws.take j).map fun e => placeV s e.at_).map nV), .row A2 c2 28 1 (ws.take j).length (((ws.take j).map fw).map fV)]) (ws.length + 1) ?_ ?_ ?_
                      · intro a ha; exact ⟨0, none, 0, none, 0, ha.sub ⟨rfl, rfl, rfl, rfl, rfl, rfl, rfl, rfl, rfl, trivial⟩, by omega, by omega, hS⟩
                      · rintro a w' ⟨j, _, _, _, _, _, h1, h2, _⟩; omega
                      rintro k a w1 ⟨j, A1, c1, A2, c2, hF, hj, hk, hS⟩
                      refine gc_of hF ?_
                      clear hF
                      have htk : (ws.take j).length = j := by rw [List.length_take]; omega
                      refine gc_seq fun K22 hK22 => ?_
                      refine gc_region ?_
                      refine gl_op rfl rfl rfl (op_pure hT rfl) ?_
                      refine gl_nil ?_
                      refine hK22 _ _ ?_
                      clear hK22; try clear K22
                      refine gc_seq fun K23 hK23 => ?_
                      refine gc_cond rfl rfl (fun c76 => ?_) (fun c76 => ?_)
                      · try simp only [decide_eq_true_eq, decide_eq_false_iff_not, Bool.not_eq_true', Bool.not_eq_false', Int.not_lt, Int.not_le, Nat.not_lt, Nat.not_le, Bool.true_eq, Bool.false_eq, reduceCtorEq] at c76
                        refine gc_skip ?_
                        refine hK23 _ _ ?_
                        clear hK23; try clear K23
                        refine gc_seq fun K24 hK24 => ?_
                        refine gc_block ?_
                        refine gc_seq fun K25 hK25 => ?_
                        refine gc_region ?_
                        have hjl : j < ws.length := by omega
                        obtain ⟨x, hx⟩ : ∃ x, ws[j]? = some x := ⟨_, List.getElem?_eq_getElem hjl⟩
                        have hxm := List.mem_of_getElem? hx
                        have hxw := hwm x hxm
                        have htake : ws.take (j + 1) = ws.take j ++ [x] := by rw [List.take_add_one, hx]; rfl
                        have hRs : RdS _ All seC 5 A73 ws := ⟨hS.rd (i := 4) rfl, fun _ => rfl⟩
                        obtain ⟨ad7, hA7, hc7⟩ := hRs.at hx
                        refine gl_op rfl rfl rfl (op_indexAddr hT rfl rfl el75.cellsOf.1 el75.cellsOf.2 rfl rfl (by omega) (by omega) hA7) ?_
                        refine gl_op rfl rfl rfl (op_loadS Try.underlying75 rfl el75 rfl rfl hc7 rfl) ?_
                        refine gl_alloc el75 hS rfl rfl rfl rfl fun g14 w14 hS => ?_
                        refine gl_storeM 7 hS el75 rfl rfl rfl rfl rfl rfl rfl rfl rfl fun wrows_go_89 hS => ?_
                        refine gl_nil ?_
                        refine hK25 _ _ ?_
                        clear hK25; try clear K25
                        refine gc_seq fun K26 hK26 => ?_
                        refine gc_region ?_
                        refine gl_op rfl rfl rfl (op_pure hT rfl) ?_
                        refine gl_op rfl rfl rfl (op_loadG 1 Try.underlying27 rfl el27 hS rfl rfl rfl rfl rfl) ?_
                        refine gl_op rfl rfl rfl (op_fieldB 0 rfl Try.underlying75 rfl el66 rfl rfl) ?_
                        refine gl_op rfl rfl rfl (op_loadG 7 Try.underlying66 rfl el66 hS rfl rfl rfl rfl rfl) ?_
                        refine gl_callf rfl rfl rfl rfl Try.func31 rfl rfl rfl (place_calls s x.at_ _ ⟨by omega, by omega⟩ ⟨by omega, by omega⟩ ⟨by omega, by omega⟩ ⟨by omega, by omega⟩ ⟨by omega, by omega⟩) ?_
                        rintro _ w83 ⟨rfl, hb83⟩
                        refine ⟨_, rfl, ?_⟩
                        have hS := hS.grown hb83
                        refine gl_lit hT hS el3 rfl rfl rfl rfl rfl rfl rfl rfl rfl fun g84 w84 hS => ?_
                        refine gl_append 5 hT hS el3 (hS.rd (i := 8) rfl) (rfl) rfl rfl rfl rfl rfl rfl rfl rfl (by first | omega | (simp; omega)) (by first | omega | (simp; omega)) fun A85 c85 w85 hS => ?_
                        have hS := hS.erase 8
                        refine gl_op rfl rfl rfl (op_pure hT rfl) ?_
                        refine gl_nil ?_
                        refine hK26 _ _ ?_
                        clear hK26; try clear K26
                        refine gc_seq fun K27 hK27 => ?_
                        refine gc_region ?_
                        refine gl_op rfl rfl rfl (op_fieldB 9 rfl Try.underlying32 rfl el28 rfl rfl) ?_
                        refine gl_op rfl rfl rfl (op_loadB 0 hT hS rfl rfl rfl rfl rfl rfl) ?_
                        refine gl_op rfl rfl rfl (op_pure hT rfl) ?_
                        refine gl_nil ?_
                        refine hK27 _ _ ?_
                        clear hK27; try clear K27
                        refine gc_seq fun K28 hK28 => ?_
                        refine gc_seq fun K29 hK29 => ?_
                        refine gc_region ?_
                        refine gl_op rfl rfl rfl (op_fieldB 0 rfl Try.underlying32 rfl el3 rfl rfl) ?_
                        refine gl_op rfl rfl rfl (op_loadB 0 hT hS rfl rfl rfl rfl rfl rfl) ?_
                        refine gl_op rfl rfl rfl (op_pure hT rfl) ?_
                        refine gl_nil ?_
                        refine hK29 _ _ ?_
                        clear hK29; try clear K29
                        refine gc_cond rfl rfl (fun c90 => ?_) (fun c90 => ?_)
                        · try simp only [decide_eq_true_eq, decide_eq_false_iff_not, Bool.not_eq_true', Bool.not_eq_false', Int.not_lt, Int.not_le, Nat.not_lt, Nat.not_le, Bool.true_eq, Bool.false_eq, reduceCtorEq] at c90
                          have hxl := hlt x hxm c90
                          have hfx : fw x = lw.getD (((o.c * s.c + x.at_.c) * L.kh + x.p) * L.kw + x.q).toNat 0 := by rw [hfw]; exact if_pos c90
                          obtain ⟨adW, hAW, hcW2⟩ := D.rW.at 0 (i := ((o.c * s.c + x.at_.c) * L.kh + x.p) * L.kw + x.q) (by omega) (by omega)
                          rw [← hfx] at hcW2
                          refine gc_region ?_
                          refine gl_op rfl rfl rfl (op_fieldB 10 rfl Try.underlying32 rfl el29 rfl rfl) ?_
                          refine gl_op rfl rfl rfl (op_loadB 0 hT hS rfl rfl rfl rfl rfl rfl) ?_
                          refine gl_op rfl rfl rfl (op_ixA (j := 0) rfl Try.underlying66 el3 rfl rfl (by decide) (by decide) rfl) ?_
                          refine gl_op rfl rfl rfl (op_loadB 3 hT hS rfl rfl rfl rfl rfl rfl) ?_
                          refine gl_op rfl rfl rfl (op_fieldB 0 rfl Try.underlying27 rfl el3 rfl rfl) ?_
                          refine gl_op rfl rfl rfl (op_loadB 1 hT hS rfl rfl rfl rfl rfl rfl) ?_
                          first | refine gl_fit hT rfl rfl rfl rfl (by omega) ?_ | refine gl_op rfl rfl rfl (op_pure hT rfl) ?_
                          refine gl_op rfl rfl rfl (op_fieldB 0 rfl Try.underlying75 rfl el66 rfl rfl) ?_
                          refine gl_op rfl rfl rfl (op_ixA (j := 0) rfl Try.underlying66 el3 rfl rfl (by decide) (by decide) rfl) ?_
                          refine gl_op rfl rfl rfl (op_loadB 7 hT hS rfl rfl rfl rfl rfl rfl) ?_
                          first | refine gl_fit hT rfl rfl rfl rfl (by omega) ?_ | refine gl_op rfl rfl rfl (op_pure hT rfl) ?_
                          refine gl_op rfl rfl rfl (op_fieldB 2 rfl Try.underlying32 rfl el3 rfl rfl) ?_
                          refine gl_op rfl rfl rfl (op_loadB 0 hT hS rfl rfl rfl rfl rfl rfl) ?_
                          first | refine gl_fit hT rfl rfl rfl rfl (by omega) ?_ | refine gl_op rfl rfl rfl (op_pure hT rfl) ?_
                          refine gl_op rfl rfl rfl (op_fieldB 3 rfl Try.underlying75 rfl el3 rfl rfl) ?_
                          refine gl_op rfl rfl rfl (op_loadB 7 hT hS rfl rfl rfl rfl rfl rfl) ?_
                          first | refine gl_fit hT rfl rfl rfl rfl (by omega) ?_ | refine gl_op rfl rfl rfl (op_pure hT rfl) ?_
                          refine gl_op rfl rfl rfl (op_fieldB 3 rfl Try.underlying32 rfl el3 rfl rfl) ?_
                          refine gl_op rfl rfl rfl (op_loadB 0 hT hS rfl rfl rfl rfl rfl rfl) ?_
                          first | refine gl_fit hT rfl rfl rfl rfl (by omega) ?_ | refine gl_op rfl rfl rfl (op_pure hT rfl) ?_
                          refine gl_op rfl rfl rfl (op_fieldB 4 rfl Try.underlying75 rfl el3 rfl rfl) ?_
                          refine gl_op rfl rfl rfl (op_loadB 7 hT hS rfl rfl rfl rfl rfl rfl) ?_
                          first | refine gl_fit hT rfl rfl rfl rfl (by omega) ?_ | refine gl_op rfl rfl rfl (op_pure hT rfl) ?_
                          refine gl_op rfl rfl rfl (op_indexAddr hT rfl rfl el28.cellsOf.1 el28.cellsOf.2 rfl rfl (by omega) (by omega) hAW) ?_
                          refine gl_op rfl rfl rfl (op_load hT rfl rfl rfl rfl (cellOf hS.below hcW2)) ?_
                          refine gl_op rfl rfl rfl (op_pure hT rfl) ?_
                          refine gl_nil ?_
                          refine hK28 _ _ ?_
                          clear hK28; try clear K28
                          refine gc_region ?_
                          refine gl_op rfl rfl rfl (op_pure hT rfl) ?_
                          refine gl_op rfl rfl rfl (op_pure hT rfl) ?_
                          refine gl_lit hT hS el28 rfl rfl rfl rfl rfl rfl rfl rfl rfl fun g118 w118 hS => ?_
                          refine gl_append 6 hT hS el28 (hS.rd (i := 8) rfl) (rfl) rfl rfl rfl rfl rfl rfl rfl rfl (by first | omega | (simp; omega)) (by first | omega | (simp; omega)) fun A119 c119 w119 hS => ?_
                          have hS := hS.erase 8
                          refine gl_op rfl rfl rfl (op_pure hT rfl) ?_
                          refine gl_nil ?_
                          refine hK24 _ _ ?_
                          clear hK24; try clear K24
                          refine gc_region ?_
                          first | refine gl_fit hT rfl rfl rfl rfl (by omega) ?_ | refine gl_op rfl rfl rfl (op_pure hT rfl) ?_
                          refine gl_op rfl rfl rfl (op_pure hT rfl) ?_
                          refine gl_nil ?_
                          intro a ha
                          have hS := hS.pre 7
                          have e1 : (ws.take (j + 1)).length = (ws.take j).length + 1 := by rw [htake, List.length_append]; rfl
                          refine ⟨j + 1, A85, c85, A119, c119, ha.sub ⟨rfl, rfl, ?_, ?_, rfl, rfl, rfl, rfl, rfl, trivial⟩, by omega, by omega, ?_⟩
                          · rw [e1]; rfl
                          · rw [e1]; rfl
                          · rw [e1, htake, List.map_append, List.map_append, List.map_append, List.map_append]
                            show St _ _ _ [_, _, _, _, _, _, .row _ _ _ _ _ (_ ++ [fV (fw x)])]
                            first
                              | exact hS
                              | (rw [hfx]; exact hS)
                        · try simp only [decide_eq_true_eq, decide_eq_false_iff_not, Bool.not_eq_true', Bool.not_eq_false', Int.not_lt, Int.not_le, Nat.not_lt, Nat.not_le, Bool.true_eq, Bool.false_eq, reduceCtorEq] at c90
                          have hfx : fw x = L.a := by rw [hfw]; exact if_neg c90
                          refine gc_skip ?_
                          refine hK28 _ _ ?_
                          clear hK28; try clear K28
                          refine gc_region ?_
                          refine gl_op rfl rfl rfl (op_pure hT rfl) ?_
                          refine gl_op rfl rfl rfl (op_pure hT rfl) ?_
                          refine gl_lit hT hS el28 rfl rfl rfl rfl rfl rfl rfl rfl rfl fun g118 w118 hS => ?_
                          refine gl_append 6 hT hS el28 (hS.rd (i := 8) rfl) (rfl) rfl rfl rfl rfl rfl rfl rfl rfl (by first | omega | (simp; omega)) (by first | omega | (simp; omega)) fun A119 c119 w119 hS => ?_
                          have hS := hS.erase 8
                          refine gl_op rfl rfl rfl (op_pure hT rfl) ?_
                          refine gl_nil ?_
                          refine hK24 _ _ ?_
                          clear hK24; try clear K24
                          refine gc_region ?_
                          first | refine gl_fit hT rfl rfl rfl rfl (by omega) ?_ | refine gl_op rfl rfl rfl (op_pure hT rfl) ?_
                          refine gl_op rfl rfl rfl (op_pure hT rfl) ?_
                          refine gl_nil ?_
                          intro a ha
                          have hS := hS.pre 7
                          have e1 : (ws.take (j + 1)).length = (ws.take j).length + 1 := by rw [htake, List.length_append]; rfl
                          refine ⟨j + 1, A85, c85, A119, c119, ha.sub ⟨rfl, rfl, ?_, ?_, rfl, rfl, rfl, rfl, rfl, trivial⟩, by omega, by omega, ?_⟩
                          · rw [e1]; rfl
                          · rw [e1]; rfl
                          · rw [e1, htake, List.map_append, List.map_append, List.map_append, List.map_append]
                            show St _ _ _ [_, _, _, _, _, _, .row _ _ _ _ _ (_ ++ [fV (fw x)])]
                            first
                              | exact hS
                              | (rw [hfx]; exact hS)
                      · try simp only [decide_eq_true_eq, decide_eq_false_iff_not, Bool.not_eq_true', Bool.not_eq_false', Int.not_lt, Int.not_le, Nat.not_lt, Nat.not_le, Bool.true_eq, Bool.false_eq, reduceCtorEq] at c76
                        have hje : ws.take j = ws := List.take_of_length_le (by omega)
                        rw [hje] at hS ⊢
                        have hS := hS.erase 4
                        refine gc_exit ?_
                        refine hK20 _ _ ?_
                        clear hK20; try clear K20
                        refine gc_seq fun K30 hK30 => ?_
                        refine gc_region ?_
                        refine gl_op rfl rfl rfl (op_fieldB 0 rfl Try.underlying32 rfl el3 rfl rfl) ?_
                        refine gl_op rfl rfl rfl (op_loadB 0 hT hS rfl rfl rfl rfl rfl rfl) ?_
                        refine gl_op rfl rfl rfl (op_pure hT rfl) ?_
                        refine gl_nil ?_
                        refine hK30 _ _ ?_
                        clear hK30; try clear K30
                        refine gc_cond rfl rfl (fun c123 => ?_) (fun c123 => ?_)
                        · try simp only [decide_eq_true_eq, decide_eq_false_iff_not, Bool.not_eq_true', Bool.not_eq_false', Int.not_lt, Int.not_le, Nat.not_lt, Nat.not_le, Bool.true_eq, Bool.false_eq, reduceCtorEq] at c123
                          have hls1 : lensV L s = (L.out * s.c * L.kh * L.kw, L.out, 0, 0) := by unfold lensV; rw [if_neg c130, if_pos c123]
                          have ho4 : (outS L s).c = L.out := by unfold outS; rw [if_neg c130, if_neg c167, if_pos (show winV L.k by unfold winV; omega)]; dsimp only; rw [if_pos c123]
                          rw [hls1] at hw2
                          dsimp only at hw2
                          rw [if_pos c123] at hR1
                          obtain ⟨adB, hAB, hcB⟩ := D.rB.at 0 (i := o.c) hsp.1.1 (by omega)
                          refine gc_region ?_
                          refine gl_op rfl rfl rfl (op_fieldB 11 rfl Try.underlying32 rfl el29 rfl rfl) ?_
                          refine gl_op rfl rfl rfl (op_loadB 0 hT hS rfl rfl rfl rfl rfl rfl) ?_
                          refine gl_op rfl rfl rfl (op_ixA (j := 0) rfl Try.underlying66 el3 rfl rfl (by decide) (by decide) rfl) ?_
                          refine gl_op rfl rfl rfl (op_loadB 3 hT hS rfl rfl rfl rfl rfl rfl) ?_
                          refine gl_op rfl rfl rfl (op_indexAddr hT rfl rfl el28.cellsOf.1 el28.cellsOf.2 rfl rfl hsp.1.1 (by omega) hAB) ?_
                          refine gl_op rfl rfl rfl (op_load hT rfl rfl rfl rfl (cellOf hS.below hcB)) ?_
                          refine gl_op rfl rfl rfl (op_pure hT rfl) ?_
                          refine gl_nil ?_
                          intro a ha
                          have hS := hS.sub (List.drop_sublist 4 _)
                          show ∃ (A1 : Option Addr) (c1 : Nat) (A2 : Option Addr) (c2 : Nat), Fr 203 a [(6, .slice A1 R.cols.length c1), (7, .slice A2 R.w.length c2), (8, .float .f64 R.b)] ∧ R.e = 0 ∧ St w.heap.size w _ [.row A1 c1 3 1 R.cols.length (R.cols.map nV), .row A2 c2 28 1 R.w.length (R.w.map fV)]
                          first
                            | (rw [hRl.1, hRl.2, hR1]
                               first
                                 | exact ⟨_, _, _, _, ha.sub ⟨rfl, rfl, rfl, trivial⟩, rfl, hS⟩
                                 | exact ⟨_, _, _, _, ha.sub ⟨rfl, rfl, rfl, trivial⟩, rfl, hS.perm (List.Perm.swap ..)⟩)
                            | (rw [hRl.1, hR1]
                               exact ⟨_, _, _, _, ha.sub ⟨rfl, rfl, rfl, trivial⟩, rfl, hS⟩)
                        · try simp only [decide_eq_true_eq, decide_eq_false_iff_not, Bool.not_eq_true', Bool.not_eq_false', Int.not_lt, Int.not_le, Nat.not_lt, Nat.not_le, Bool.true_eq, Bool.false_eq, reduceCtorEq] at c123
                          rw [if_neg c123] at hR1
                          refine gc_skip ?_
                          intro a ha
                          have hS := hS.sub (List.drop_sublist 4 _)
                          show ∃ (A1 : Option Addr) (c1 : Nat) (A2 : Option Addr) (c2 : Nat), Fr 203 a [(6, .slice A1 R.cols.length c1), (7, .slice A2 R.w.length c2), (8, .float .f64 R.b)] ∧ R.e = 0 ∧ St w.heap.size w _ [.row A1 c1 3 1 R.cols.length (R.cols.map nV), .row A2 c2 28 1 R.w.length (R.w.map fV)]
                          first
                            | (rw [hRl.1, hRl.2, hR1]
                               first
                                 | exact ⟨_, _, _, _, ha.sub ⟨rfl, rfl, rfl, trivial⟩, rfl, hS⟩
                                 | exact ⟨_, _, _, _, ha.sub ⟨rfl, rfl, rfl, trivial⟩, rfl, hS.perm (List.Perm.swap ..)⟩)
                            | (rw [hRl.1, hR1]
                               exact ⟨_, _, _, _, ha.sub ⟨rfl, rfl, rfl, trivial⟩, rfl, hS⟩)
              rintro a w1 ⟨A1, c1, A2, c2, hF, hRe, hS⟩
              refine gc_of hF ?_
              clear hF
              have hcap1 := (hS.cap (i := 0) rfl).1
              have hcap2 := (hS.cap (i := 1) rfl).1
              refine gc_seq fun K31 hK31 => ?_
              refine gc_region ?_
              refine gl_op rfl rfl rfl (op_pure hT rfl) ?_
              refine gl_callf rfl rfl rfl rfl Try.func32 rfl rfl rfl (clipI_calls _ _ _ hcap1 _) ?_
              rintro _ _ ⟨rfl, n199, rfl⟩
              refine ⟨_, rfl, ?_⟩
              have hS := hS.dr n199
              refine gl_op rfl rfl rfl (op_pure hT rfl) ?_
              refine gl_callf rfl rfl rfl rfl Try.func33 rfl rfl rfl (clipF_calls _ _ _ hcap2 _) ?_
              rintro _ _ ⟨rfl, n201, rfl⟩
              refine ⟨_, rfl, ?_⟩
              have hS := hS.dr n201
              refine gl_op rfl rfl rfl (op_pure hT rfl) ?_
              refine gl_op rfl rfl rfl (op_pure hT rfl) ?_
              refine gl_op rfl rfl rfl (op_pure hT rfl) ?_
              refine gl_op rfl rfl rfl (op_pure hT rfl) ?_
              refine gl_op rfl rfl rfl (op_pure hT rfl) ?_
              refine gl_nil ?_
              refine hK31 _ _ ?_
              clear hK31; try clear K31
              refine gc_ret ?_
              try simp only [x_then_ret, x_block_ret]
              refine gk_ret4 rfl rfl rfl rfl rfl ?_
              first
                | exact ⟨A1, _, A2, _, _, by rw [hRe], rdE_of (hS.rowRd (i := 0) rfl fun b hb => ⟨_, by simp, hb⟩) rfl, rdE_of (hS.rowRd (i := 1) rfl fun b hb => ⟨_, by simp, hb⟩) rfl, hS.keepAll⟩
theorem row_calls (L : Ly) (lw lb : List Nat) (lz lzb : List (Nat × Nat)) (s : Sh) (i : Int) (w : World) (hL : L.ok) (hs : s.ok) {ok : Nat → Prop} (D : LyD w ok L lw lb lz lzb) (hi64 : i64 i) (R : Rw) (hR : R = rowV L lw lb lz lzb s i) :
    Calls Try.prog 15 ⟨[.agg ⟨lyC L⟩, .agg ⟨shC s⟩, .int .i64 i]⟩ w fun e w' => ∃ A1 c1 A2 c2, e = .returned (.tuple #[.slice A1 R.cols.length c1, .slice A2 R.w.length c2, .float .f64 R.b, .int .i64 R.e]) ∧ RdE w' All nV A1 R.cols ∧ RdE w' All fV A2 R.w ∧ Below w.heap.size w w' :=
  (rowK_calls L lw lb lz lzb s i w hL hs D hi64 R hR).mono fun e w' ⟨A1, c1, A2, c2, K, h1, h2, h3, h4⟩ => ⟨A1, c1, A2, c2, h1, Rd.weaken h2 fun _ _ => trivial, Rd.weaken h3 fun _ _ => trivial, h4.below⟩
end Go.Proofs.Ytkfhablonnjgeaa
