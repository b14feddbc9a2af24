/- The contract of ambitlaw7.RowsWindows. No condition. -/
import Derived.Test.YtkfhablonnjgeaaAk1
namespace Go.Proofs.Ytkfhablonnjgeaa
open Go.RowKit
set_option linter.unusedVariables false
set_option linter.unusedSimpArgs false
theorem out_of_count {L : Ly} {s : Sh} (h : (outV L s).2 = 0) : (1 ≤ (outS L s).c ∧ (outS L s).c ≤ 256) ∧ (1 ≤ (outS L s).h ∧ (outS L s).h ≤ 256) ∧ (1 ≤ (outS L s).w ∧ (outS L s).w ≤ 256) ∧ 1 ≤ (outS L s).c * (outS L s).h * (outS L s).w ∧ (outS L s).c * (outS L s).h * (outS L s).w ≤ 256 := by
  obtain ⟨_, _, _, _, ho⟩ := outV_zero h
  exact sz_good ho
/-- A window, and the row beside it. -/
theorem wnd_of {L : Ly} {s : Sh} {i : Int} (h : (outV L s).2 = 0) (hw : winV L.k) (h0 : 0 ≤ i) (h1 : i < (outS L s).c * (outS L s).h * (outS L s).w) : wndV L s i = ((winV_ L s (outS L s) i).map fun e => placeV s e.at_, 0) := by
  unfold wndV
  rw [if_neg (by rw [h]; simp), if_neg (fun h => h hw), if_neg (by omega)]
theorem row_of {L : Ly} {lw lb : List Nat} {lz lzb : List (Nat × Nat)} {s : Sh} {i : Int} (h : (outV L s).2 = 0) (hk : L.k = 2 ∨ L.k = 4) (hwh : wholeV L s lw.length lb.length lz.length lzb.length = true) (h0 : 0 ≤ i) (h1 : i < (outS L s).c * (outS L s).h * (outS L s).w) :
    ∃ ws b, (⟨(winV_ L s (outS L s) i).map fun e => placeV s e.at_, ws, b, 0⟩ : Rw) = rowV L lw lb lz lzb s i := by
  unfold rowV
  rw [if_neg (by rw [h]; simp), if_neg (by omega), if_neg (by rw [hwh]; simp), if_neg (by omega)]
  simp only
  rw [if_neg (by omega), if_neg (by omega), if_neg (by omega)]
  exact ⟨_, _, rfl⟩
theorem row_max {L : Ly} {lw lb : List Nat} {lz lzb : List (Nat × Nat)} {s : Sh} {i : Int} (h : (outV L s).2 = 0) (hk : L.k = 12) : (⟨[], [], 0, 61⟩ : Rw) = rowV L lw lb lz lzb s i := by
  unfold rowV
  rw [if_neg (by rw [h]; simp), if_pos (by omega)]
theorem wnd_len {L : Ly} {s : Sh} {i : Int} (h : WnOk L s i) : (winV_ L s (outS L s) i).length ≤ 65536 := by
  have h1 := h.len
  have h2 := h.kh
  have h3 := h.kw
  have h4 := h.c
  have m1 := mul_bd (a := L.kh) (b := L.kw) (A := 16) (B := 16) (by omega) (by omega) (by omega) (by omega)
  have m2 := mul_bd (a := L.kh * L.kw) (b := s.c) (A := 256) (B := 256) (by omega) (by omega) (by omega) (by omega)
  omega
theorem countOk_calls (L : Ly) (s : Sh) (w : World) (hL : L.ok) (hs : s.ok) (h : (outV L s).2 = 0) (M : Nat) (hM : (outS L s).c * (outS L s).h * (outS L s).w = (M : Int)) :
    Calls Try.prog 14 ⟨[.agg ⟨lyC L⟩, .agg ⟨shC s⟩]⟩ w fun e w' => e = .returned (.tuple #[.int .i64 (M : Nat), .int .i64 0]) ∧ Below w.heap.size w w' := by
  have := count_calls L s w hL hs
  rw [h, if_neg (by simp), hM] at this
  exact this
theorem sameIntsN_calls (A B : Option Addr) (n n2 c c2 : Nat) (l l2 : List Int) (w : World) {ok ok2 : Nat → Prop} (he : l = l2) (hA : RdE w ok nV A l) (hn : n = l.length) (hB : RdE w ok2 nV B l2) (hn2 : n2 = l2.length) (hl : l.length ≤ 1048576) :
    Calls Try.prog 20 ⟨[.slice A n c, .slice B n2 c2]⟩ w fun e w' => e = .returned (.bool true) ∧ Below w.heap.size w w' := by
  subst he; exact sameInts_calls A B n n2 c c2 l w hA hn hB hn2 hl
set_option maxHeartbeats 4000000 in
set_option maxRecDepth 100000 in
theorem RowsWindows_calls (k out kh kw sh sw ph pw seed : Int) (s : Sh) (w : World) (hi : i64 k ∧ i64 out ∧ i64 kh ∧ i64 kw ∧ i64 sh ∧ i64 sw ∧ i64 ph ∧ i64 pw) (hs : s.ok) :
    Calls Try.prog 6 ⟨[.agg ⟨whC k out kh kw sh sw ph pw seed⟩, .agg ⟨shC s⟩]⟩ w fun e w' => e = .returned (.bool true) ∧ Below w.heap.size w w' := by
  obtain ⟨a0, ha0⟩ : ∃ a0, a0 = mdA k seed := ⟨_, rfl⟩
  have ha64 : a0 < 18446744073709551616 := by rw [ha0]; exact (mdA_sm k seed).lt
  refine gc_enter (N := 191) Try.func6 rfl rfl rfl [(0, _), (1, _)] rfl ?_
  have hS := St.start w
  refine gc_seq fun K1 hK1 => ?_
  refine gc_region ?_
  refine gl_box hS rfl rfl rfl rfl rfl fun g2 w2 hS => ?_
  refine gl_box hS rfl rfl rfl rfl rfl fun g3 w3 hS => ?_
  refine gl_op rfl rfl rfl (op_pure hT rfl) ?_
  refine gl_nil ?_
  refine hK1 _ _ ?_
  clear hK1; try clear K1
  refine gc_seq fun K2 hK2 => ?_
  refine gc_region ?_
  refine gl_op rfl rfl rfl (op_loadG 0 Try.underlying25 rfl el25 hS rfl rfl rfl rfl rfl) ?_
  refine gl_op rfl rfl rfl (op_loadG 1 Try.underlying27 rfl el27 hS rfl rfl rfl rfl rfl) ?_
  refine gl_callf rfl rfl rfl rfl Try.func10 rfl rfl rfl (made_calls k out kh kw sh sw ph pw seed s _ hi hs a0 ha0) ?_
  rintro _ w22 ⟨W, B, Z, Y, b, K, rfl, h22, hm1, _⟩
  have hLok : (mdL k out kh kw sh sw ph pw a0 W B Z Y).ok := mdL_ok hi ha64
  generalize mdL k out kh kw sh sw ph pw a0 W B Z Y = L at hm1 hLok
  refine ⟨_, rfl, ?_⟩
  have hS := hS.more h22
  refine gl_op rfl rfl rfl (op_pure hT rfl) ?_
  refine gl_op rfl rfl rfl (op_pure hT rfl) ?_
  refine gl_op rfl rfl rfl (op_pure hT rfl) ?_
  refine gl_alloc el32 hS rfl rfl rfl rfl fun g5 w5 hS => ?_
  refine gl_storeM 3 hS el32 rfl rfl rfl rfl rfl rfl rfl rfl rfl fun wlaw_go_309 hS => ?_
  refine gl_op rfl rfl rfl (op_pure hT rfl) ?_
  refine gl_nil ?_
  refine hK2 _ _ ?_
  clear hK2; try clear K2
  refine gc_cut (fun a w' => Fr 191 a [(2, .pointer (some ⟨g2, 0, none⟩)), (3, .pointer (some ⟨g3, 0, none⟩)), (5, .pointer (some ⟨g5, 0, none⟩))] ∧ (b = true ∧ winV L.k) ∧ St w.heap.size w w' [.blk g2 25 (whC k out kh kw sh sw ph pw seed), .blk g3 27 (shC s), .keep K w22, .blk g5 32 (lyC L)]) ?_ ?_
  · skip
    refine gc_seq fun K3 hK3 => ?_
    refine gc_region ?_
    refine gl_op rfl rfl rfl (op_pure hT rfl) ?_
    refine gl_op rfl rfl rfl (op_pure hT rfl) ?_
    refine gl_op rfl rfl rfl (op_pure hT rfl) ?_
    refine gl_split (t := 27) rfl (fun c27 => ?_) (fun c27 => ?_)
    · try simp only [decide_eq_true_eq, decide_eq_false_iff_not, Bool.not_eq_true', Bool.not_eq_false', Int.not_lt, Int.not_le, Nat.not_lt, Nat.not_le, Bool.true_eq, Bool.false_eq, reduceCtorEq] at c27
      refine gl_pass rfl rfl rfl rfl rfl rfl ?_
      refine gl_pass rfl rfl rfl rfl rfl rfl ?_
      refine gl_pass rfl rfl rfl rfl rfl rfl ?_
      refine gl_pass rfl rfl rfl rfl rfl rfl ?_
      refine gl_none rfl rfl rfl rfl rfl ?_
      refine gl_none rfl rfl rfl rfl rfl ?_
      refine gl_none rfl rfl rfl rfl rfl ?_
      refine gl_pass rfl rfl rfl rfl rfl rfl ?_
      refine gl_pass rfl rfl rfl rfl rfl rfl ?_
      refine gl_none rfl rfl rfl rfl rfl ?_
      refine gl_none rfl rfl rfl rfl rfl ?_
      refine gl_none rfl rfl rfl rfl rfl ?_
      refine gl_pass rfl rfl rfl rfl rfl rfl ?_
      refine gl_op rfl rfl rfl (op_pure hT rfl) ?_
      refine gl_nil ?_
      refine hK3 _ _ ?_
      clear hK3; try clear K3
      refine gc_cond_t rfl ?_
      refine gc_seq fun K4 hK4 => ?_
      refine gc_region ?_
      refine gl_callf rfl rfl rfl rfl Try.func7 rfl rfl rfl (told_calls _) ?_
      rintro _ w42 ⟨rfl, hb42⟩
      refine ⟨_, rfl, ?_⟩
      have hS := hS.grown hb42
      refine gl_op rfl rfl rfl (op_pure hT rfl) ?_
      refine gl_nil ?_
      refine hK4 _ _ ?_
      clear hK4; try clear K4
      refine gc_ret ?_
      try simp only [x_then_ret, x_block_ret]
      refine gk_ret1 rfl rfl ?_
      exact ⟨rfl, hS.below⟩
    · try simp only [decide_eq_true_eq, decide_eq_false_iff_not, Bool.not_eq_true', Bool.not_eq_false', Int.not_lt, Int.not_le, Nat.not_lt, Nat.not_le, Bool.true_eq, Bool.false_eq, reduceCtorEq] at c27
      refine gl_un rfl rfl rfl rfl ?_
      refine gl_op rfl rfl rfl (op_fieldB 0 rfl Try.underlying32 rfl el3 rfl rfl) ?_
      refine gl_un rfl rfl rfl rfl ?_
      refine gl_op rfl rfl rfl (op_loadB 3 hT hS rfl rfl rfl rfl rfl rfl) ?_
      refine gl_un rfl rfl rfl rfl ?_
      refine gl_op rfl rfl rfl (op_pure hT rfl) ?_
      refine gl_un rfl rfl rfl rfl ?_
      refine gl_op rfl rfl rfl (op_pure hT rfl) ?_
      refine gl_split (t := 31) rfl (fun c31 => ?_) (fun c31 => ?_)
      · try simp only [decide_eq_true_eq, decide_eq_false_iff_not, Bool.not_eq_true', Bool.not_eq_false', Int.not_lt, Int.not_le, Nat.not_lt, Nat.not_le, Bool.true_eq, Bool.false_eq, reduceCtorEq] at c31
        refine gl_un rfl rfl rfl rfl ?_
        refine gl_op rfl rfl rfl (op_fieldB 0 rfl Try.underlying32 rfl el3 rfl rfl) ?_
        refine gl_un rfl rfl rfl rfl ?_
        refine gl_op rfl rfl rfl (op_loadB 3 hT hS rfl rfl rfl rfl rfl rfl) ?_
        refine gl_un rfl rfl rfl rfl ?_
        refine gl_op rfl rfl rfl (op_pure hT rfl) ?_
        refine gl_un rfl rfl rfl rfl ?_
        refine gl_op rfl rfl rfl (op_pure hT rfl) ?_
        refine gl_un rfl rfl rfl rfl ?_
        refine gl_op rfl rfl rfl (op_pure hT rfl) ?_
        refine gl_split (t := 36) rfl (fun c36 => ?_) (fun c36 => ?_)
        · try simp only [decide_eq_true_eq, decide_eq_false_iff_not, Bool.not_eq_true', Bool.not_eq_false', Int.not_lt, Int.not_le, Nat.not_lt, Nat.not_le, Bool.true_eq, Bool.false_eq, reduceCtorEq] at c36
          refine gl_un rfl rfl rfl rfl ?_
          refine gl_op rfl rfl rfl (op_fieldB 0 rfl Try.underlying32 rfl el3 rfl rfl) ?_
          refine gl_un rfl rfl rfl rfl ?_
          refine gl_op rfl rfl rfl (op_loadB 3 hT hS rfl rfl rfl rfl rfl rfl) ?_
          refine gl_un rfl rfl rfl rfl ?_
          refine gl_op rfl rfl rfl (op_pure hT rfl) ?_
          refine gl_un rfl rfl rfl rfl ?_
          refine gl_op rfl rfl rfl (op_pure hT rfl) ?_
          refine gl_op rfl rfl rfl (op_pure hT rfl) ?_
          refine gl_nil ?_
          refine hK3 _ _ ?_
          clear hK3; try clear K3
          refine gc_cond rfl rfl (fun c41 => ?_) (fun c41 => ?_)
          · try simp only [decide_eq_true_eq, decide_eq_false_iff_not, Bool.not_eq_true', Bool.not_eq_false', Int.not_lt, Int.not_le, Nat.not_lt, Nat.not_le, Bool.true_eq, Bool.false_eq, reduceCtorEq] at c41
            refine gc_seq fun K5 hK5 => ?_
            refine gc_region ?_
            refine gl_callf rfl rfl rfl rfl Try.func7 rfl rfl rfl (told_calls _) ?_
            rintro _ w42 ⟨rfl, hb42⟩
            refine ⟨_, rfl, ?_⟩
            have hS := hS.grown hb42
            refine gl_op rfl rfl rfl (op_pure hT rfl) ?_
            refine gl_nil ?_
            refine hK5 _ _ ?_
            clear hK5; try clear K5
            refine gc_ret ?_
            try simp only [x_then_ret, x_block_ret]
            refine gk_ret1 rfl rfl ?_
            exact ⟨rfl, hS.below⟩
          · try simp only [decide_eq_true_eq, decide_eq_false_iff_not, Bool.not_eq_true', Bool.not_eq_false', Int.not_lt, Int.not_le, Nat.not_lt, Nat.not_le, Bool.true_eq, Bool.false_eq, reduceCtorEq] at c41
            refine gc_skip ?_
            intro a ha
            exact ⟨ha.sub ⟨rfl, rfl, rfl, trivial⟩, ⟨by cases b; exact absurd c27 (by simp); rfl, by unfold winV; omega⟩, hS⟩
        · try simp only [decide_eq_true_eq, decide_eq_false_iff_not, Bool.not_eq_true', Bool.not_eq_false', Int.not_lt, Int.not_le, Nat.not_lt, Nat.not_le, Bool.true_eq, Bool.false_eq, reduceCtorEq] at c36
          refine gl_pass rfl rfl rfl rfl rfl rfl ?_
          refine gl_pass rfl rfl rfl rfl rfl rfl ?_
          refine gl_pass rfl rfl rfl rfl rfl rfl ?_
          refine gl_un rfl rfl rfl rfl ?_
          refine gl_op rfl rfl rfl (op_pure hT rfl) ?_
          refine gl_op rfl rfl rfl (op_pure hT rfl) ?_
          refine gl_nil ?_
          refine hK3 _ _ ?_
          clear hK3; try clear K3
          refine gc_cond_f rfl ?_
          refine gc_skip ?_
          intro a ha
          exact ⟨ha.sub ⟨rfl, rfl, rfl, trivial⟩, ⟨by cases b; exact absurd c27 (by simp); rfl, by unfold winV; omega⟩, hS⟩
      · try simp only [decide_eq_true_eq, decide_eq_false_iff_not, Bool.not_eq_true', Bool.not_eq_false', Int.not_lt, Int.not_le, Nat.not_lt, Nat.not_le, Bool.true_eq, Bool.false_eq, reduceCtorEq] at c31
        refine gl_pass rfl rfl rfl rfl rfl rfl ?_
        refine gl_pass rfl rfl rfl rfl rfl rfl ?_
        refine gl_pass rfl rfl rfl rfl rfl rfl ?_
        refine gl_un rfl rfl rfl rfl ?_
        refine gl_op rfl rfl rfl (op_pure hT rfl) ?_
        refine gl_un rfl rfl rfl rfl ?_
        refine gl_op rfl rfl rfl (op_pure hT rfl) ?_
        refine gl_pass rfl rfl rfl rfl rfl rfl ?_
        refine gl_pass rfl rfl rfl rfl rfl rfl ?_
        refine gl_pass rfl rfl rfl rfl rfl rfl ?_
        refine gl_un rfl rfl rfl rfl ?_
        refine gl_op rfl rfl rfl (op_pure hT rfl) ?_
        refine gl_op rfl rfl rfl (op_pure hT rfl) ?_
        refine gl_nil ?_
        refine hK3 _ _ ?_
        clear hK3; try clear K3
        refine gc_cond_f rfl ?_
        refine gc_skip ?_
        intro a ha
        exact ⟨ha.sub ⟨rfl, rfl, rfl, trivial⟩, ⟨by cases b; exact absurd c27 (by simp); rfl, by unfold winV; omega⟩, hS⟩
  rintro a w1 ⟨hF, ⟨hbt, hwk⟩, hS⟩
  refine gc_of hF ?_
  clear hF
  have hmd := hm1 hbt
  have hout := hmd.out
  obtain ⟨hf0, hsz, _, _, _⟩ := outV_zero hout
  obtain ⟨_, _, hfo⟩ := fv_zero hf0
  have hgs := sz_good hsz
  have hgo := out_of_count hout
  have hwn := fld_win hfo hwk
  obtain ⟨M, hM⟩ : ∃ M : Nat, (outS L s).c * (outS L s).h * (outS L s).w = (M : Int) := ⟨_, (Int.toNat_of_nonneg (by omega)).symm⟩
  have m1 := mul_bd (a := L.kh) (b := L.kw) (A := 16) (B := 16) (by omega) (by omega) (by omega) (by omega)
  have m2 := mul_bd (a := L.kh * L.kw) (b := s.c) (A := 256) (B := 256) (by omega) (by omega) (by omega) (by omega)
  have m3 := mul_bd (a := s.h) (b := s.w) (A := 256) (B := 256) (by omega) (by omega) (by omega) (by omega)
  have m4 := mul_bd (a := s.c) (b := s.h) (A := 256) (B := 256) (by omega) (by omega) (by omega) (by omega)
  have hq := div_bd (a := (M : Int)) (b := s.c) (by omega) (by omega)
  have hW0 : ∀ i : Int, 0 ≤ i → i < (M : Int) → WnOk L s i := fun i h0 h1 => WnOk.of hout hwk h0 (by rw [hM]; exact h1)
  refine gc_seq fun K6 hK6 => ?_
  refine gc_region ?_
  refine gl_op rfl rfl rfl (op_loadG 3 Try.underlying32 rfl el32 hS rfl rfl rfl rfl rfl) ?_
  refine gl_op rfl rfl rfl (op_loadG 1 Try.underlying27 rfl el27 hS rfl rfl rfl rfl rfl) ?_
  refine gl_callf rfl rfl rfl rfl Try.func14 rfl rfl rfl (countOk_calls L s _ hLok hs hout M hM) ?_
  rintro _ w46 ⟨rfl, hb46⟩
  refine ⟨_, rfl, ?_⟩
  have hS := hS.grown hb46
  refine gl_op rfl rfl rfl (op_pure hT rfl) ?_
  refine gl_op rfl rfl rfl (op_pure hT rfl) ?_
  refine gl_op rfl rfl rfl (op_pure hT rfl) ?_
  refine gl_op rfl rfl rfl (op_pure hT rfl) ?_
  refine gl_op rfl rfl rfl (op_pure hT rfl) ?_
  refine gl_nil ?_
  refine hK6 _ _ ?_
  clear hK6; try clear K6
  refine gc_seq fun K7 hK7 => ?_
  refine gc_seq fun K8 hK8 => ?_
  refine gc_region ?_
  refine gl_op rfl rfl rfl (op_pure hT rfl) ?_
  refine gl_op rfl rfl rfl (op_pure hT rfl) ?_
  refine gl_op rfl rfl rfl (op_pure hT rfl) ?_
  refine gl_un rfl rfl rfl rfl ?_
  refine gl_op rfl rfl rfl (op_pure hT rfl) ?_
  refine gl_un rfl rfl rfl rfl ?_
  refine gl_op rfl rfl rfl (op_pure hT rfl) ?_
  refine gl_spell 53 (v := .bool false) rfl (by congr 1; simp; omega) ?_
  refine gl_op rfl rfl rfl (op_pure hT rfl) ?_
  refine gl_op rfl rfl rfl (op_pure hT rfl) ?_
  refine gl_un rfl rfl rfl rfl ?_
  refine gl_callf rfl rfl rfl rfl Try.func7 rfl rfl rfl (told_calls _) ?_
  rintro _ w56 ⟨rfl, hb56⟩
  refine ⟨_, rfl, ?_⟩
  have hS := hS.grown hb56
  refine gl_un rfl rfl rfl rfl ?_
  refine gl_op rfl rfl rfl (op_pure hT rfl) ?_
  refine gl_op rfl rfl rfl (op_pure hT rfl) ?_
  refine gl_nil ?_
  refine hK8 _ _ ?_
  clear hK8; try clear K8
  refine gc_cond_f rfl ?_
  refine gc_skip ?_
  refine hK7 _ _ ?_
  clear hK7; try clear K7
  refine gc_seq fun K9 hK9 => ?_
  refine gc_region ?_
  refine gl_op rfl rfl rfl (op_pure hT rfl) ?_
  refine gl_op rfl rfl rfl (op_fieldB 0 rfl Try.underlying27 rfl el3 rfl rfl) ?_
  refine gl_op rfl rfl rfl (op_loadB 1 hT hS rfl rfl rfl rfl rfl rfl) ?_
  first | refine gl_op rfl rfl rfl (op_quo hT rfl (by omega) (by omega)) ?_ | refine gl_op rfl rfl rfl (op_pure hT rfl) ?_ | refine gl_op rfl rfl rfl (op_quoS rfl rfl rfl (by omega) (by omega)) ?_
  refine gl_op rfl rfl rfl (op_pure hT rfl) ?_
  refine gl_nil ?_
  refine hK9 _ _ ?_
  clear hK9; try clear K9
  refine gc_seq fun K10 hK10 => ?_
  refine gc_seq fun K11 hK11 => ?_
  refine gc_region ?_
  refine gl_op rfl rfl rfl (op_pure hT rfl) ?_
  refine gl_nil ?_
  refine hK11 _ _ ?_
  clear hK11; try clear K11
  refine gc_block ?_
  refine gc_loop (fun kk a w' => ∃ (i : Nat), Fr 191 a [(3, .pointer (some ⟨g3, 0, none⟩)), (5, .pointer (some ⟨g5, 0, none⟩)), (7, .int .i64 (M : Nat)), (9, .int .i64 ((M : Int) / s.c)), (10, .int .i64 (i : Nat))] ∧ i ≤ M ∧ kk = M + 1 - i ∧
    St w.heap.size w w' [.blk g2 25 (whC k out kh kw sh sw ph pw seed), .blk g3 27 (shC s), .keep K w22, .blk g5 32 (lyC L)]) (M + 1) ?_ ?_ ?_
  · intro a ha; exact ⟨0, ha.sub ⟨rfl, rfl, rfl, rfl, rfl, trivial⟩, by omega, by omega, hS⟩
  · rintro a w' ⟨j, _, h1, h2, _⟩; omega
  rintro kk a w1 ⟨i, hF, hj, hk, hS⟩
  refine gc_of hF ?_
  clear hF
  refine gc_seq fun K12 hK12 => ?_
  refine gc_seq fun K13 hK13 => ?_
  refine gc_region ?_
  refine gl_op rfl rfl rfl (op_pure hT rfl) ?_
  refine gl_op rfl rfl rfl (op_pure hT rfl) ?_
  refine gl_op rfl rfl rfl (op_pure hT rfl) ?_
  refine gl_nil ?_
  refine hK13 _ _ ?_
  clear hK13; try clear K13
  refine gc_cond rfl rfl (fun c65 => ?_) (fun c65 => ?_)
  · try simp only [decide_eq_true_eq, decide_eq_false_iff_not, Bool.not_eq_true', Bool.not_eq_false', Int.not_lt, Int.not_le, Nat.not_lt, Nat.not_le, Bool.true_eq, Bool.false_eq, reduceCtorEq] at c65
    refine gc_skip ?_
    refine hK12 _ _ ?_
    clear hK12; try clear K12
    refine gc_seq fun K14 hK14 => ?_
    refine gc_block ?_
    refine gc_seq fun K15 hK15 => ?_
    refine gc_region ?_
    refine gl_op rfl rfl rfl (op_loadG 3 Try.underlying32 rfl el32 hS rfl rfl rfl rfl rfl) ?_
    refine gl_op rfl rfl rfl (op_loadG 1 Try.underlying27 rfl el27 hS rfl rfl rfl rfl rfl) ?_
    refine gl_op rfl rfl rfl (op_pure hT rfl) ?_
    have hWn := hW0 i (by omega) (by omega)
    obtain ⟨pl, hpl⟩ : ∃ pl, pl = (winV_ L s (outS L s) i).map fun e => placeV s e.at_ := ⟨_, rfl⟩
    have hpll : pl.length = (winV_ L s (outS L s) i).length := by rw [hpl, List.length_map]
    have hpl1 := hWn.one
    have hpl2 := hWn.len
    have hpl3 := wnd_len hWn
    have hww := wnd_of hout hwk (i := (i : Int)) (by omega) (by rw [hM]; omega)
    rw [← hpl] at hww
    refine gl_callf rfl rfl rfl rfl Try.func19 rfl rfl rfl (wnd_calls L s i _ hLok hs ⟨by omega, by omega⟩ (pl, 0) hww.symm) ?_
    rintro _ w72 ⟨A1, c1, K1, rfl, hr1, h72⟩
    refine ⟨_, rfl, ?_⟩
    have hS := hS.more h72
    refine gl_op rfl rfl rfl (op_pure hT rfl) ?_
    refine gl_op rfl rfl rfl (op_pure hT rfl) ?_
    refine gl_op rfl rfl rfl (op_pure hT rfl) ?_
    refine gl_op rfl rfl rfl (op_pure hT rfl) ?_
    refine gl_op rfl rfl rfl (op_pure hT rfl) ?_
    refine gl_nil ?_
    refine hK15 _ _ ?_
    clear hK15; try clear K15
    refine gc_seq fun K16 hK16 => ?_
    refine gc_seq fun K17 hK17 => ?_
    refine gc_region ?_
    refine gl_op rfl rfl rfl (op_pure hT rfl) ?_
    refine gl_op rfl rfl rfl (op_pure hT rfl) ?_
    refine gl_op rfl rfl rfl (op_pure hT rfl) ?_
    refine gl_un rfl rfl rfl rfl ?_
    refine gl_op rfl rfl rfl (op_pure hT rfl) ?_
    refine gl_un rfl rfl rfl rfl ?_
    refine gl_op rfl rfl rfl (op_pure hT rfl) ?_
    refine gl_un rfl rfl rfl rfl ?_
    refine gl_op rfl rfl rfl (op_pure hT rfl) ?_
    refine gl_spell 80 (v := .bool false) rfl (congrArg Value.bool (decide_eq_false (show ¬ ((pl.length : Nat) : Int) = 0 by omega))) ?_
    refine gl_op rfl rfl rfl (op_pure hT rfl) ?_
    refine gl_op rfl rfl rfl (op_pure hT rfl) ?_
    refine gl_un rfl rfl rfl rfl ?_
    refine gl_op rfl rfl rfl (op_pure hT rfl) ?_
    refine gl_un rfl rfl rfl rfl ?_
    refine gl_op rfl rfl rfl (op_pure hT rfl) ?_
    refine gl_un rfl rfl rfl rfl ?_
    refine gl_op rfl rfl rfl (op_fieldB 2 rfl Try.underlying32 rfl el3 rfl rfl) ?_
    refine gl_un rfl rfl rfl rfl ?_
    refine gl_op rfl rfl rfl (op_loadB 3 hT hS rfl rfl rfl rfl rfl rfl) ?_
    refine gl_un rfl rfl rfl rfl ?_
    refine gl_op rfl rfl rfl (op_fieldB 3 rfl Try.underlying32 rfl el3 rfl rfl) ?_
    refine gl_un rfl rfl rfl rfl ?_
    refine gl_op rfl rfl rfl (op_loadB 3 hT hS rfl rfl rfl rfl rfl rfl) ?_
    refine gl_un rfl rfl rfl rfl ?_
    first | refine gl_fit hT rfl rfl rfl rfl (by omega) ?_ | refine gl_op rfl rfl rfl (op_pure hT rfl) ?_
    refine gl_un rfl rfl rfl rfl ?_
    refine gl_op rfl rfl rfl (op_fieldB 0 rfl Try.underlying27 rfl el3 rfl rfl) ?_
    refine gl_un rfl rfl rfl rfl ?_
    refine gl_op rfl rfl rfl (op_loadB 1 hT hS rfl rfl rfl rfl rfl rfl) ?_
    refine gl_un rfl rfl rfl rfl ?_
    first | refine gl_fit hT rfl rfl rfl rfl (by omega) ?_ | refine gl_op rfl rfl rfl (op_pure hT rfl) ?_
    refine gl_un rfl rfl rfl rfl ?_
    refine gl_op rfl rfl rfl (op_pure hT rfl) ?_
    refine gl_spell 93 (v := .bool false) rfl (by congr 1; simp; omega) ?_
    refine gl_op rfl rfl rfl (op_pure hT rfl) ?_
    refine gl_nil ?_
    refine hK17 _ _ ?_
    clear hK17; try clear K17
    refine gc_cond_f rfl ?_
    refine gc_skip ?_
    refine hK16 _ _ ?_
    clear hK16; try clear K16
    refine gc_seq fun K18 hK18 => ?_
    refine gc_seq fun K19 hK19 => ?_
    refine gc_region ?_
    refine gl_op rfl rfl rfl (op_pure hT rfl) ?_
    refine gl_nil ?_
    refine hK19 _ _ ?_
    clear hK19; try clear K19
    refine gc_block ?_
    refine gc_loop (fun kk a w' => ∃ (q : Nat), Fr 191 a [(3, .pointer (some ⟨g3, 0, none⟩)), (5, .pointer (some ⟨g5, 0, none⟩)), (7, .int .i64 (M : Nat)), (9, .int .i64 ((M : Int) / s.c)), (10, .int .i64 (i : Nat)), (11, .slice A1 pl.length c1), (13, .int .i64 (q : Nat))] ∧ q ≤ pl.length ∧ kk = pl.length + 1 - q ∧
      St w.heap.size w w' [.blk g2 25 (whC k out kh kw sh sw ph pw seed), .blk g3 27 (shC s), .keep K w22, .blk g5 32 (lyC L), .keep K1 w72]) (pl.length + 1) ?_ ?_ ?_
    · intro a ha; exact ⟨0, ha.sub ⟨rfl, rfl, rfl, rfl, rfl, rfl, rfl, trivial⟩, by omega, by omega, hS⟩
    · rintro a w' ⟨j, _, h1, h2, _⟩; omega
    rintro kk a w1 ⟨q, hF, hq1, hkk, hS⟩
    refine gc_of hF ?_
    clear hF
    refine gc_seq fun K20 hK20 => ?_
    refine gc_seq fun K21 hK21 => ?_
    refine gc_region ?_
    refine gl_op rfl rfl rfl (op_pure hT rfl) ?_
    refine gl_op rfl rfl rfl (op_pure hT rfl) ?_
    refine gl_op rfl rfl rfl (op_pure hT rfl) ?_
    refine gl_op rfl rfl rfl (op_pure hT rfl) ?_
    refine gl_nil ?_
    refine hK21 _ _ ?_
    clear hK21; try clear K21
    refine gc_cond rfl rfl (fun c98 => ?_) (fun c98 => ?_)
    · try simp only [decide_eq_true_eq, decide_eq_false_iff_not, Bool.not_eq_true', Bool.not_eq_false', Int.not_lt, Int.not_le, Nat.not_lt, Nat.not_le, Bool.true_eq, Bool.false_eq, reduceCtorEq] at c98
      refine gc_skip ?_
      refine hK20 _ _ ?_
      clear hK20; try clear K20
      refine gc_seq fun K22 hK22 => ?_
      refine gc_block ?_
      refine gc_seq fun K23 hK23 => ?_
      refine gc_anyS hS (by kernel_rfl) rfl fun nq17 hK => ?_
      have hS := hS.dr nq17
      have hql : q < pl.length := by omega
      obtain ⟨x, hx⟩ : ∃ x, pl[q]? = some x := ⟨_, List.getElem?_eq_getElem hql⟩
      have hxg : pl.getD ((q : Int)).toNat 0 = x := by rw [Int.toNat_natCast, List.getD_eq_getElem?_getD, hx]; rfl
      obtain ⟨hxb, hxo, hxr⟩ := hWn.places hpl hx
      have hRd : ∀ {w2 : World}, St w.heap.size w w2 [.blk g2 25 (whC k out kh kw sh sw ph pw seed), .blk g3 27 (shC s), .keep K w22, .blk g5 32 (lyC L), .keep K1 w72] → RdE w2 K1 nV A1 pl := fun h => h.keepRd (i := 4) rfl hr1
      obtain ⟨ad, hA, _⟩ := (hRd hS).at 0 (i := (q : Int)) (by omega) (by omega)
      have hcell : ∀ (p : Nat) (y : Int) {w2 : World}, pl[p]? = some y → St w.heap.size w w2 [.blk g2 25 (whC k out kh kw sh sw ph pw seed), .blk g3 27 (shC s), .keep K w22, .blk g5 32 (lyC L), .keep K1 w72] → w2.cell? (ad.add p) = some (nV y) := fun p y w2 hp h => by
        obtain ⟨ad2, hA2, hc2⟩ := (hRd h).at 0 (i := (p : Int)) (by omega) (by have := (List.getElem?_eq_some_iff.1 hp).1; omega)
        have e1 : pl.getD ((p : Int)).toNat 0 = y := by rw [Int.toNat_natCast, List.getD_eq_getElem?_getD, hp]; rfl
        rw [e1, Int.toNat_natCast, Nat.mul_one] at hc2
        rw [hA] at hA2
        obtain rfl := Option.some.inj hA2
        exact hc2
      have hqs : (M : Int) / s.c = (outS L s).h * (outS L s).w ∨ L.k = 2 := by
        by_cases h2 : L.k = 2
        · exact .inr h2
        · exact .inl (by rw [← hM]; exact hWn.size h2)
      have m5 := mul_bd (a := (outS L s).h) (b := (outS L s).w) (A := 256) (B := 256) (by omega) (by omega) (by omega) (by omega)
      refine ga_take 0 rfl rfl rfl rfl (by kernel_rfl) (fun _ _ _ _ _ h => h) hK (fun w1 hS => op_fieldB 0 rfl Try.underlying32 rfl el3 rfl rfl) ?_
      refine ga_take 1 rfl rfl rfl rfl (by kernel_rfl) (fun _ _ _ _ _ h => h) hK (fun w1 hS => op_loadB 3 hT hS rfl rfl rfl rfl rfl rfl) ?_
      refine ga_take 2 rfl rfl rfl rfl (by kernel_rfl) (fun _ _ _ _ _ h => h) hK (fun w1 hS => op_pure hT rfl) ?_
      refine ga_take 3 rfl rfl rfl rfl (by kernel_rfl) (fun _ _ _ _ _ h => h) hK (fun w1 hS => op_pure hT rfl) ?_
      refine ga_split (t := 104) rfl (fun c104 => ?_) (fun c104 => ?_)
      · try simp only [decide_eq_true_eq, decide_eq_false_iff_not, Bool.not_eq_true', Bool.not_eq_false', Int.not_lt, Int.not_le, Nat.not_lt, Nat.not_le, Bool.true_eq, Bool.false_eq, reduceCtorEq] at c104
        refine ga_pass 4 rfl rfl rfl rfl rfl rfl rfl (by kernel_rfl) (fun _ _ _ _ _ h => h) hK ?_
        refine ga_pass 5 rfl rfl rfl rfl rfl rfl rfl (by kernel_rfl) (fun _ _ _ _ _ h => h) hK ?_
        refine ga_pass 6 rfl rfl rfl rfl rfl rfl rfl (by kernel_rfl) (fun _ _ _ _ _ h => h) hK ?_
        refine ga_pass 7 rfl rfl rfl rfl rfl rfl rfl (by kernel_rfl) (fun _ _ _ _ _ h => h) hK ?_
        refine ga_pass 8 rfl rfl rfl rfl rfl rfl rfl (by kernel_rfl) (fun _ _ _ _ _ h => h) hK ?_
        refine ga_pass 9 rfl rfl rfl rfl rfl rfl rfl (by kernel_rfl) (fun _ _ _ _ _ h => h) hK ?_
        refine ga_pass 10 rfl rfl rfl rfl rfl rfl rfl (by kernel_rfl) (fun _ _ _ _ _ h => h) hK ?_
        refine ga_pass 11 rfl rfl rfl rfl rfl rfl rfl (by kernel_rfl) (fun _ _ _ _ _ h => h) hK ?_
        refine ga_pass 12 rfl rfl rfl rfl rfl rfl rfl (by kernel_rfl) (fun _ _ _ _ _ h => h) hK ?_
        refine ga_pass 13 rfl rfl rfl rfl rfl rfl rfl (by kernel_rfl) (fun _ _ _ _ _ h => h) hK ?_
        refine ga_pass 14 rfl rfl rfl rfl rfl rfl rfl (by kernel_rfl) (fun _ _ _ _ _ h => h) hK ?_
        refine ga_pass 15 rfl rfl rfl rfl rfl rfl rfl (by kernel_rfl) (fun _ _ _ _ _ h => h) hK ?_
        refine ga_pass 16 rfl rfl rfl rfl rfl rfl rfl (by kernel_rfl) (fun _ _ _ _ _ h => h) hK ?_
        refine ga_pass 17 rfl rfl rfl rfl rfl rfl rfl (by kernel_rfl) (fun _ _ _ _ _ h => h) hK ?_
        refine ga_take 18 rfl rfl rfl rfl (by kernel_rfl) (fun _ _ _ _ _ h => h) hK (fun w1 hS => op_pure hT rfl) ?_
        refine ga_take 19 rfl rfl rfl rfl (by kernel_rfl) (fun _ _ _ _ _ h => h) hK (fun w1 hS => op_pure hT rfl) ?_
        refine ga_done (by kernel_rfl) ?_
        refine hK23 _ _ ?_
        clear hK23; try clear K23
        refine gc_seq fun K24 hK24 => ?_
        refine gc_anyS hS (by kernel_rfl) rfl fun nq18 hK => ?_
        have hS := hS.dr nq18
        refine ga_take 0 rfl rfl rfl rfl (by kernel_rfl) (fun _ _ _ _ _ h => h) hK (fun w1 hS => op_pure hT rfl) ?_
        refine ga_take 1 rfl rfl rfl rfl (by kernel_rfl) (fun _ _ _ _ _ h => h) hK (fun w1 hS => op_pure hT rfl) ?_
        refine ga_take 2 rfl rfl rfl rfl (by kernel_rfl) (fun _ _ _ _ _ h => h) hK (fun w1 hS => op_indexAddr hT rfl rfl el3.cellsOf.1 el3.cellsOf.2 rfl rfl (by omega) (by omega) hA) ?_
        refine ga_spell 122 (v := .pointer (some (ad.add q))) rfl (by rw [Int.toNat_natCast, Nat.mul_one]) ?_
        refine ga_take 3 rfl rfl rfl rfl (by kernel_rfl) (fun _ _ _ _ _ h => h) hK (fun w1 hS => op_load hT rfl rfl rfl rfl (hcell q x hx hS)) ?_
        refine ga_take 4 rfl rfl rfl rfl (by kernel_rfl) (fun _ _ _ _ _ h => h) hK (fun w1 hS => op_pure hT rfl) ?_
        refine ga_spell 124 (v := .bool false) rfl (by congr 1; simp; omega) ?_
        refine ga_take 5 rfl rfl rfl rfl (by kernel_rfl) (fun _ _ _ _ _ h => h) hK (fun w1 hS => op_pure hT rfl) ?_
        refine ga_take_at 6 rfl rfl rfl rfl rfl rfl rfl (by kernel_rfl) (fun _ _ _ _ _ h => h) hK (fun w1 hS => op_pure hT rfl) ?_
        refine ga_take_at 7 rfl rfl rfl rfl rfl rfl rfl (by kernel_rfl) (fun _ _ _ _ _ h => h) hK (fun w1 hS => op_pure hT rfl) ?_
        refine ga_take_at 8 rfl rfl rfl rfl rfl rfl rfl (by kernel_rfl) (fun _ _ _ _ _ h => h) hK (fun w1 hS => op_indexAddr hT rfl rfl el3.cellsOf.1 el3.cellsOf.2 rfl rfl (by omega) (by omega) hA) ?_
        refine ga_spell 128 (v := .pointer (some (ad.add q))) rfl (by rw [Int.toNat_natCast, Nat.mul_one]) ?_
        refine ga_take_at 9 rfl rfl rfl rfl rfl rfl rfl (by kernel_rfl) (fun _ _ _ _ _ h => h) hK (fun w1 hS => op_load hT rfl rfl rfl rfl (hcell q x hx hS)) ?_
        refine ga_take_at 10 rfl rfl rfl rfl rfl rfl rfl (by kernel_rfl) (fun _ _ _ _ _ h => h) hK (fun w1 hS => op_fieldB 0 rfl Try.underlying27 rfl el3 rfl rfl) ?_
        refine ga_take_at 11 rfl rfl rfl rfl rfl rfl rfl (by kernel_rfl) (fun _ _ _ _ _ h => h) hK (fun w1 hS => op_loadB 1 hT hS rfl rfl rfl rfl rfl rfl) ?_
        refine ga_take_at 12 rfl rfl rfl rfl rfl rfl rfl (by kernel_rfl) (fun _ _ _ _ _ h => h) hK (fun w1 hS => op_fieldB 1 rfl Try.underlying27 rfl el3 rfl rfl) ?_
        refine ga_take_at 13 rfl rfl rfl rfl rfl rfl rfl (by kernel_rfl) (fun _ _ _ _ _ h => h) hK (fun w1 hS => op_loadB 1 hT hS rfl rfl rfl rfl rfl rfl) ?_
        refine ga_take_at 14 rfl rfl rfl rfl rfl rfl rfl (by kernel_rfl) (fun _ _ _ _ _ h => h) hK (fun w1 hS => (by first | exact op_fit hT rfl (by omega) | exact op_pure hT rfl)) ?_
        refine ga_take_at 15 rfl rfl rfl rfl rfl rfl rfl (by kernel_rfl) (fun _ _ _ _ _ h => h) hK (fun w1 hS => op_fieldB 2 rfl Try.underlying27 rfl el3 rfl rfl) ?_
        refine ga_take_at 16 rfl rfl rfl rfl rfl rfl rfl (by kernel_rfl) (fun _ _ _ _ _ h => h) hK (fun w1 hS => op_loadB 1 hT hS rfl rfl rfl rfl rfl rfl) ?_
        refine ga_take_at 17 rfl rfl rfl rfl rfl rfl rfl (by kernel_rfl) (fun _ _ _ _ _ h => h) hK (fun w1 hS => (by first | exact op_fit hT rfl (by omega) | exact op_pure hT rfl)) ?_
        refine ga_take_at 18 rfl rfl rfl rfl rfl rfl rfl (by kernel_rfl) (fun _ _ _ _ _ h => h) hK (fun w1 hS => op_pure hT rfl) ?_
        refine ga_spell 138 (v := .bool false) rfl (by congr 1; simp; omega) ?_
        refine ga_take 19 rfl rfl rfl rfl (by kernel_rfl) (fun _ _ _ _ _ h => h) hK (fun w1 hS => op_pure hT rfl) ?_
        refine ga_take 20 rfl rfl rfl rfl (by kernel_rfl) (fun _ _ _ _ _ h => h) hK (fun w1 hS => op_pure hT rfl) ?_
        refine ga_take_at 21 rfl rfl rfl rfl rfl rfl rfl (by kernel_rfl) (fun _ _ _ _ _ h => h) hK (fun w1 hS => op_pure hT rfl) ?_
        refine ga_take_at 22 rfl rfl rfl rfl rfl rfl rfl (by kernel_rfl) (fun _ _ _ _ _ h => h) hK (fun w1 hS => op_pure hT rfl) ?_
        refine ga_take_at 23 rfl rfl rfl rfl rfl rfl rfl (by kernel_rfl) (fun _ _ _ _ _ h => h) hK (fun w1 hS => op_pure hT rfl) ?_
        refine ga_split (t := 143) rfl (fun c143 => ?_) (fun c143 => ?_)
        · try simp only [decide_eq_true_eq, decide_eq_false_iff_not, Bool.not_eq_true', Bool.not_eq_false', Int.not_lt, Int.not_le, Nat.not_lt, Nat.not_le, Bool.true_eq, Bool.false_eq, reduceCtorEq] at c143
          obtain ⟨y, hy⟩ : ∃ y, pl[q - 1]? = some y := ⟨_, List.getElem?_eq_getElem (by omega)⟩
          have hyx := hxr y hy (by omega)
          have hq1e : ((q : Int) - 1) = ((q - 1 : Nat) : Int) := by omega
          refine ga_take_at 24 rfl rfl rfl rfl rfl rfl rfl (by kernel_rfl) (fun _ _ _ _ _ h => h) hK (fun w1 hS => op_pure hT rfl) ?_
          refine ga_take_at 25 rfl rfl rfl rfl rfl rfl rfl (by kernel_rfl) (fun _ _ _ _ _ h => h) hK (fun w1 hS => op_pure hT rfl) ?_
          refine ga_take_at 26 rfl rfl rfl rfl rfl rfl rfl (by kernel_rfl) (fun _ _ _ _ _ h => h) hK (fun w1 hS => op_indexAddr hT rfl rfl el3.cellsOf.1 el3.cellsOf.2 rfl rfl (by omega) (by omega) hA) ?_
          refine ga_spell 146 (v := .pointer (some (ad.add q))) rfl (by rw [Int.toNat_natCast, Nat.mul_one]) ?_
          refine ga_take_at 27 rfl rfl rfl rfl rfl rfl rfl (by kernel_rfl) (fun _ _ _ _ _ h => h) hK (fun w1 hS => op_load hT rfl rfl rfl rfl (hcell q x hx hS)) ?_
          refine ga_take_at 28 rfl rfl rfl rfl rfl rfl rfl (by kernel_rfl) (fun _ _ _ _ _ h => h) hK (fun w1 hS => op_pure hT rfl) ?_
          refine ga_take_at 29 rfl rfl rfl rfl rfl rfl rfl (by kernel_rfl) (fun _ _ _ _ _ h => h) hK (fun w1 hS => op_pure hT rfl) ?_
          refine ga_take_at 30 rfl rfl rfl rfl rfl rfl rfl (by kernel_rfl) (fun _ _ _ _ _ h => h) hK (fun w1 hS => (by first | exact op_fit hT rfl (by omega) | exact op_pure hT rfl)) ?_
          refine ga_take_at 31 rfl rfl rfl rfl rfl rfl rfl (by kernel_rfl) (fun _ _ _ _ _ h => h) hK (fun w1 hS => op_indexAddr hT rfl rfl el3.cellsOf.1 el3.cellsOf.2 rfl rfl (by omega) (by omega) hA) ?_
          refine ga_spell 151 (v := .pointer (some (ad.add (q - 1)))) rfl (by rw [hq1e, Int.toNat_natCast, Nat.mul_one]) ?_
          refine ga_take_at 32 rfl rfl rfl rfl rfl rfl rfl (by kernel_rfl) (fun _ _ _ _ _ h => h) hK (fun w1 hS => op_load hT rfl rfl rfl rfl (hcell (q - 1) y hy hS)) ?_
          refine ga_take_at 33 rfl rfl rfl rfl rfl rfl rfl (by kernel_rfl) (fun _ _ _ _ _ h => h) hK (fun w1 hS => op_pure hT rfl) ?_
          refine ga_spell 153 (v := .bool false) rfl (by congr 1; simp; omega) ?_
          refine ga_take_at 34 rfl rfl rfl rfl rfl rfl rfl (by kernel_rfl) (fun _ _ _ _ _ h => h) hK (fun w1 hS => op_pure hT rfl) ?_
          refine ga_take 35 rfl rfl rfl rfl (by kernel_rfl) (fun _ _ _ _ _ h => h) hK (fun w1 hS => op_pure hT rfl) ?_
          refine ga_take 36 rfl rfl rfl rfl (by kernel_rfl) (fun _ _ _ _ _ h => h) hK (fun w1 hS => op_pure hT rfl) ?_
          refine ga_take_at 37 rfl rfl rfl rfl rfl rfl rfl (by kernel_rfl) (fun _ _ _ _ _ h => h) hK (fun w1 hS => op_pure hT rfl) ?_
          refine ga_take_at 38 rfl rfl rfl rfl rfl rfl rfl (by kernel_rfl) (fun _ _ _ _ _ h => h) hK (fun w1 hS => op_pure hT rfl) ?_
          refine ga_take 39 rfl rfl rfl rfl (by kernel_rfl) (fun _ _ _ _ _ h => h) hK (fun w1 hS => op_pure hT rfl) ?_
          refine ga_done (by kernel_rfl) ?_
          refine hK24 _ _ ?_
          clear hK24; try clear K24
          refine gc_cond_f rfl ?_
          refine gc_skip ?_
          refine hK22 _ _ ?_
          clear hK22; try clear K22
          refine gc_region ?_
          refine gl_op rfl rfl rfl (op_pure hT rfl) ?_
          first | refine gl_fit hT rfl rfl rfl rfl (by omega) ?_ | refine gl_op rfl rfl rfl (op_pure hT rfl) ?_
          refine gl_op rfl rfl rfl (op_pure hT rfl) ?_
          refine gl_nil ?_
          intro a ha
          exact ⟨q + 1, ha.sub ⟨rfl, rfl, rfl, rfl, rfl, rfl, rfl, trivial⟩, by omega, by omega, hS⟩
        · try simp only [decide_eq_true_eq, decide_eq_false_iff_not, Bool.not_eq_true', Bool.not_eq_false', Int.not_lt, Int.not_le, Nat.not_lt, Nat.not_le, Bool.true_eq, Bool.false_eq, reduceCtorEq] at c143
          refine ga_pass 24 rfl rfl rfl rfl rfl rfl rfl (by kernel_rfl) (fun _ _ _ _ _ h => h) hK ?_
          refine ga_pass 25 rfl rfl rfl rfl rfl rfl rfl (by kernel_rfl) (fun _ _ _ _ _ h => h) hK ?_
          refine ga_pass 26 rfl rfl rfl rfl rfl rfl rfl (by kernel_rfl) (fun _ _ _ _ _ h => h) hK ?_
          refine ga_pass 27 rfl rfl rfl rfl rfl rfl rfl (by kernel_rfl) (fun _ _ _ _ _ h => h) hK ?_
          refine ga_pass 28 rfl rfl rfl rfl rfl rfl rfl (by kernel_rfl) (fun _ _ _ _ _ h => h) hK ?_
          refine ga_pass 29 rfl rfl rfl rfl rfl rfl rfl (by kernel_rfl) (fun _ _ _ _ _ h => h) hK ?_
          refine ga_pass 30 rfl rfl rfl rfl rfl rfl rfl (by kernel_rfl) (fun _ _ _ _ _ h => h) hK ?_
          refine ga_pass 31 rfl rfl rfl rfl rfl rfl rfl (by kernel_rfl) (fun _ _ _ _ _ h => h) hK ?_
          refine ga_pass 32 rfl rfl rfl rfl rfl rfl rfl (by kernel_rfl) (fun _ _ _ _ _ h => h) hK ?_
          refine ga_pass 33 rfl rfl rfl rfl rfl rfl rfl (by kernel_rfl) (fun _ _ _ _ _ h => h) hK ?_
          refine ga_take_at 34 rfl rfl rfl rfl rfl rfl rfl (by kernel_rfl) (fun _ _ _ _ _ h => h) hK (fun w1 hS => op_pure hT rfl) ?_
          refine ga_take 35 rfl rfl rfl rfl (by kernel_rfl) (fun _ _ _ _ _ h => h) hK (fun w1 hS => op_pure hT rfl) ?_
          refine ga_take 36 rfl rfl rfl rfl (by kernel_rfl) (fun _ _ _ _ _ h => h) hK (fun w1 hS => op_pure hT rfl) ?_
          refine ga_take_at 37 rfl rfl rfl rfl rfl rfl rfl (by kernel_rfl) (fun _ _ _ _ _ h => h) hK (fun w1 hS => op_pure hT rfl) ?_
          refine ga_take_at 38 rfl rfl rfl rfl rfl rfl rfl (by kernel_rfl) (fun _ _ _ _ _ h => h) hK (fun w1 hS => op_pure hT rfl) ?_
          refine ga_take 39 rfl rfl rfl rfl (by kernel_rfl) (fun _ _ _ _ _ h => h) hK (fun w1 hS => op_pure hT rfl) ?_
          refine ga_done (by kernel_rfl) ?_
          refine hK24 _ _ ?_
          clear hK24; try clear K24
          refine gc_cond_f rfl ?_
          refine gc_skip ?_
          refine hK22 _ _ ?_
          clear hK22; try clear K22
          refine gc_region ?_
          refine gl_op rfl rfl rfl (op_pure hT rfl) ?_
          first | refine gl_fit hT rfl rfl rfl rfl (by omega) ?_ | refine gl_op rfl rfl rfl (op_pure hT rfl) ?_
          refine gl_op rfl rfl rfl (op_pure hT rfl) ?_
          refine gl_nil ?_
          intro a ha
          exact ⟨q + 1, ha.sub ⟨rfl, rfl, rfl, rfl, rfl, rfl, rfl, trivial⟩, by omega, by omega, hS⟩
      · try simp only [decide_eq_true_eq, decide_eq_false_iff_not, Bool.not_eq_true', Bool.not_eq_false', Int.not_lt, Int.not_le, Nat.not_lt, Nat.not_le, Bool.true_eq, Bool.false_eq, reduceCtorEq] at c104
        refine ga_take_at 4 rfl rfl rfl rfl rfl rfl rfl (by kernel_rfl) (fun _ _ _ _ _ h => h) hK (fun w1 hS => op_pure hT rfl) ?_
        refine ga_take_at 5 rfl rfl rfl rfl rfl rfl rfl (by kernel_rfl) (fun _ _ _ _ _ h => h) hK (fun w1 hS => op_pure hT rfl) ?_
        refine ga_take_at 6 rfl rfl rfl rfl rfl rfl rfl (by kernel_rfl) (fun _ _ _ _ _ h => h) hK (fun w1 hS => op_indexAddr hT rfl rfl el3.cellsOf.1 el3.cellsOf.2 rfl rfl (by omega) (by omega) hA) ?_
        refine ga_spell 107 (v := .pointer (some (ad.add q))) rfl (by rw [Int.toNat_natCast, Nat.mul_one]) ?_
        refine ga_take_at 7 rfl rfl rfl rfl rfl rfl rfl (by kernel_rfl) (fun _ _ _ _ _ h => h) hK (fun w1 hS => op_load hT rfl rfl rfl rfl (hcell q x hx hS)) ?_
        refine ga_take_at 8 rfl rfl rfl rfl rfl rfl rfl (by kernel_rfl) (fun _ _ _ _ _ h => h) hK (fun w1 hS => op_fieldB 1 rfl Try.underlying27 rfl el3 rfl rfl) ?_
        refine ga_take_at 9 rfl rfl rfl rfl rfl rfl rfl (by kernel_rfl) (fun _ _ _ _ _ h => h) hK (fun w1 hS => op_loadB 1 hT hS rfl rfl rfl rfl rfl rfl) ?_
        refine ga_take_at 10 rfl rfl rfl rfl rfl rfl rfl (by kernel_rfl) (fun _ _ _ _ _ h => h) hK (fun w1 hS => op_fieldB 2 rfl Try.underlying27 rfl el3 rfl rfl) ?_
        refine ga_take_at 11 rfl rfl rfl rfl rfl rfl rfl (by kernel_rfl) (fun _ _ _ _ _ h => h) hK (fun w1 hS => op_loadB 1 hT hS rfl rfl rfl rfl rfl rfl) ?_
        refine ga_take_at 12 rfl rfl rfl rfl rfl rfl rfl (by kernel_rfl) (fun _ _ _ _ _ h => h) hK (fun w1 hS => (by first | exact op_fit hT rfl (by omega) | exact op_pure hT rfl)) ?_
        refine ga_take_at 13 rfl rfl rfl rfl rfl rfl rfl (by kernel_rfl) (fun _ _ _ _ _ h => h) hK (fun w1 hS => (by first | exact op_quo hT rfl (by omega) (by omega) | exact op_pure hT rfl | exact op_quoS rfl rfl rfl (by omega) (by omega))) ?_
        refine ga_take_at 14 rfl rfl rfl rfl rfl rfl rfl (by kernel_rfl) (fun _ _ _ _ _ h => h) hK (fun w1 hS => op_pure hT rfl) ?_
        refine ga_take_at 15 rfl rfl rfl rfl rfl rfl rfl (by kernel_rfl) (fun _ _ _ _ _ h => h) hK (fun w1 hS => op_pure hT rfl) ?_
        refine ga_take_at 16 rfl rfl rfl rfl rfl rfl rfl (by kernel_rfl) (fun _ _ _ _ _ h => h) hK (fun w1 hS => (by first | exact op_quo hT rfl (by omega) (by omega) | exact op_pure hT rfl | exact op_quoS rfl rfl rfl (by omega) (by omega))) ?_
        refine ga_take_at 17 rfl rfl rfl rfl rfl rfl rfl (by kernel_rfl) (fun _ _ _ _ _ h => h) hK (fun w1 hS => op_pure hT rfl) ?_
        refine ga_spell 118 (v := .bool true) rfl (congrArg Value.bool (decide_eq_true (by rw [hqs.resolve_right c104]; exact hxo.resolve_left c104))) ?_
        refine ga_take 18 rfl rfl rfl rfl (by kernel_rfl) (fun _ _ _ _ _ h => h) hK (fun w1 hS => op_pure hT rfl) ?_
        refine ga_take 19 rfl rfl rfl rfl (by kernel_rfl) (fun _ _ _ _ _ h => h) hK (fun w1 hS => op_pure hT rfl) ?_
        refine ga_done (by kernel_rfl) ?_
        refine hK23 _ _ ?_
        clear hK23; try clear K23
        refine gc_seq fun K25 hK25 => ?_
        refine gc_anyS hS (by kernel_rfl) rfl fun nq18 hK => ?_
        have hS := hS.dr nq18
        refine ga_take 0 rfl rfl rfl rfl (by kernel_rfl) (fun _ _ _ _ _ h => h) hK (fun w1 hS => op_pure hT rfl) ?_
        refine ga_take 1 rfl rfl rfl rfl (by kernel_rfl) (fun _ _ _ _ _ h => h) hK (fun w1 hS => op_pure hT rfl) ?_
        refine ga_take 2 rfl rfl rfl rfl (by kernel_rfl) (fun _ _ _ _ _ h => h) hK (fun w1 hS => op_indexAddr hT rfl rfl el3.cellsOf.1 el3.cellsOf.2 rfl rfl (by omega) (by omega) hA) ?_
        refine ga_spell 122 (v := .pointer (some (ad.add q))) rfl (by rw [Int.toNat_natCast, Nat.mul_one]) ?_
        refine ga_take 3 rfl rfl rfl rfl (by kernel_rfl) (fun _ _ _ _ _ h => h) hK (fun w1 hS => op_load hT rfl rfl rfl rfl (hcell q x hx hS)) ?_
        refine ga_take 4 rfl rfl rfl rfl (by kernel_rfl) (fun _ _ _ _ _ h => h) hK (fun w1 hS => op_pure hT rfl) ?_
        refine ga_spell 124 (v := .bool false) rfl (by congr 1; simp; omega) ?_
        refine ga_take 5 rfl rfl rfl rfl (by kernel_rfl) (fun _ _ _ _ _ h => h) hK (fun w1 hS => op_pure hT rfl) ?_
        refine ga_take_at 6 rfl rfl rfl rfl rfl rfl rfl (by kernel_rfl) (fun _ _ _ _ _ h => h) hK (fun w1 hS => op_pure hT rfl) ?_
        refine ga_take_at 7 rfl rfl rfl rfl rfl rfl rfl (by kernel_rfl) (fun _ _ _ _ _ h => h) hK (fun w1 hS => op_pure hT rfl) ?_
        refine ga_take_at 8 rfl rfl rfl rfl rfl rfl rfl (by kernel_rfl) (fun _ _ _ _ _ h => h) hK (fun w1 hS => op_indexAddr hT rfl rfl el3.cellsOf.1 el3.cellsOf.2 rfl rfl (by omega) (by omega) hA) ?_
        refine ga_spell 128 (v := .pointer (some (ad.add q))) rfl (by rw [Int.toNat_natCast, Nat.mul_one]) ?_
        refine ga_take_at 9 rfl rfl rfl rfl rfl rfl rfl (by kernel_rfl) (fun _ _ _ _ _ h => h) hK (fun w1 hS => op_load hT rfl rfl rfl rfl (hcell q x hx hS)) ?_
        refine ga_take_at 10 rfl rfl rfl rfl rfl rfl rfl (by kernel_rfl) (fun _ _ _ _ _ h => h) hK (fun w1 hS => op_fieldB 0 rfl Try.underlying27 rfl el3 rfl rfl) ?_
        refine ga_take_at 11 rfl rfl rfl rfl rfl rfl rfl (by kernel_rfl) (fun _ _ _ _ _ h => h) hK (fun w1 hS => op_loadB 1 hT hS rfl rfl rfl rfl rfl rfl) ?_
        refine ga_take_at 12 rfl rfl rfl rfl rfl rfl rfl (by kernel_rfl) (fun _ _ _ _ _ h => h) hK (fun w1 hS => op_fieldB 1 rfl Try.underlying27 rfl el3 rfl rfl) ?_
        refine ga_take_at 13 rfl rfl rfl rfl rfl rfl rfl (by kernel_rfl) (fun _ _ _ _ _ h => h) hK (fun w1 hS => op_loadB 1 hT hS rfl rfl rfl rfl rfl rfl) ?_
        refine ga_take_at 14 rfl rfl rfl rfl rfl rfl rfl (by kernel_rfl) (fun _ _ _ _ _ h => h) hK (fun w1 hS => (by first | exact op_fit hT rfl (by omega) | exact op_pure hT rfl)) ?_
        refine ga_take_at 15 rfl rfl rfl rfl rfl rfl rfl (by kernel_rfl) (fun _ _ _ _ _ h => h) hK (fun w1 hS => op_fieldB 2 rfl Try.underlying27 rfl el3 rfl rfl) ?_
        refine ga_take_at 16 rfl rfl rfl rfl rfl rfl rfl (by kernel_rfl) (fun _ _ _ _ _ h => h) hK (fun w1 hS => op_loadB 1 hT hS rfl rfl rfl rfl rfl rfl) ?_
        refine ga_take_at 17 rfl rfl rfl rfl rfl rfl rfl (by kernel_rfl) (fun _ _ _ _ _ h => h) hK (fun w1 hS => (by first | exact op_fit hT rfl (by omega) | exact op_pure hT rfl)) ?_
        refine ga_take_at 18 rfl rfl rfl rfl rfl rfl rfl (by kernel_rfl) (fun _ _ _ _ _ h => h) hK (fun w1 hS => op_pure hT rfl) ?_
        refine ga_spell 138 (v := .bool false) rfl (by congr 1; simp; omega) ?_
        refine ga_take 19 rfl rfl rfl rfl (by kernel_rfl) (fun _ _ _ _ _ h => h) hK (fun w1 hS => op_pure hT rfl) ?_
        refine ga_take 20 rfl rfl rfl rfl (by kernel_rfl) (fun _ _ _ _ _ h => h) hK (fun w1 hS => op_pure hT rfl) ?_
        refine ga_take_at 21 rfl rfl rfl rfl rfl rfl rfl (by kernel_rfl) (fun _ _ _ _ _ h => h) hK (fun w1 hS => op_pure hT rfl) ?_
        refine ga_take_at 22 rfl rfl rfl rfl rfl rfl rfl (by kernel_rfl) (fun _ _ _ _ _ h => h) hK (fun w1 hS => op_pure hT rfl) ?_
        refine ga_take_at 23 rfl rfl rfl rfl rfl rfl rfl (by kernel_rfl) (fun _ _ _ _ _ h => h) hK (fun w1 hS => op_pure hT rfl) ?_
        refine ga_split (t := 143) rfl (fun c143 => ?_) (fun c143 => ?_)
        · try simp only [decide_eq_true_eq, decide_eq_false_iff_not, Bool.not_eq_true', Bool.not_eq_false', Int.not_lt, Int.not_le, Nat.not_lt, Nat.not_le, Bool.true_eq, Bool.false_eq, reduceCtorEq] at c143
          obtain ⟨y, hy⟩ : ∃ y, pl[q - 1]? = some y := ⟨_, List.getElem?_eq_getElem (by omega)⟩
          have hyx := hxr y hy (by omega)
          have hq1e : ((q : Int) - 1) = ((q - 1 : Nat) : Int) := by omega
          refine ga_take_at 24 rfl rfl rfl rfl rfl rfl rfl (by kernel_rfl) (fun _ _ _ _ _ h => h) hK (fun w1 hS => op_pure hT rfl) ?_
          refine ga_take_at 25 rfl rfl rfl rfl rfl rfl rfl (by kernel_rfl) (fun _ _ _ _ _ h => h) hK (fun w1 hS => op_pure hT rfl) ?_
          refine ga_take_at 26 rfl rfl rfl rfl rfl rfl rfl (by kernel_rfl) (fun _ _ _ _ _ h => h) hK (fun w1 hS => op_indexAddr hT rfl rfl el3.cellsOf.1 el3.cellsOf.2 rfl rfl (by omega) (by omega) hA) ?_
          refine ga_spell 146 (v := .pointer (some (ad.add q))) rfl (by rw [Int.toNat_natCast, Nat.mul_one]) ?_
          refine ga_take_at 27 rfl rfl rfl rfl rfl rfl rfl (by kernel_rfl) (fun _ _ _ _ _ h => h) hK (fun w1 hS => op_load hT rfl rfl rfl rfl (hcell q x hx hS)) ?_
          refine ga_take_at 28 rfl rfl rfl rfl rfl rfl rfl (by kernel_rfl) (fun _ _ _ _ _ h => h) hK (fun w1 hS => op_pure hT rfl) ?_
          refine ga_take_at 29 rfl rfl rfl rfl rfl rfl rfl (by kernel_rfl) (fun _ _ _ _ _ h => h) hK (fun w1 hS => op_pure hT rfl) ?_
          refine ga_take_at 30 rfl rfl rfl rfl rfl rfl rfl (by kernel_rfl) (fun _ _ _ _ _ h => h) hK (fun w1 hS => (by first | exact op_fit hT rfl (by omega) | exact op_pure hT rfl)) ?_
          refine ga_take_at 31 rfl rfl rfl rfl rfl rfl rfl (by kernel_rfl) (fun _ _ _ _ _ h => h) hK (fun w1 hS => op_indexAddr hT rfl rfl el3.cellsOf.1 el3.cellsOf.2 rfl rfl (by omega) (by omega) hA) ?_
          refine ga_spell 151 (v := .pointer (some (ad.add (q - 1)))) rfl (by rw [hq1e, Int.toNat_natCast, Nat.mul_one]) ?_
          refine ga_take_at 32 rfl rfl rfl rfl rfl rfl rfl (by kernel_rfl) (fun _ _ _ _ _ h => h) hK (fun w1 hS => op_load hT rfl rfl rfl rfl (hcell (q - 1) y hy hS)) ?_
          refine ga_take_at 33 rfl rfl rfl rfl rfl rfl rfl (by kernel_rfl) (fun _ _ _ _ _ h => h) hK (fun w1 hS => op_pure hT rfl) ?_
          refine ga_spell 153 (v := .bool false) rfl (by congr 1; simp; omega) ?_
          refine ga_take_at 34 rfl rfl rfl rfl rfl rfl rfl (by kernel_rfl) (fun _ _ _ _ _ h => h) hK (fun w1 hS => op_pure hT rfl) ?_
          refine ga_take 35 rfl rfl rfl rfl (by kernel_rfl) (fun _ _ _ _ _ h => h) hK (fun w1 hS => op_pure hT rfl) ?_
          refine ga_take 36 rfl rfl rfl rfl (by kernel_rfl) (fun _ _ _ _ _ h => h) hK (fun w1 hS => op_pure hT rfl) ?_
          refine ga_take_at 37 rfl rfl rfl rfl rfl rfl rfl (by kernel_rfl) (fun _ _ _ _ _ h => h) hK (fun w1 hS => op_pure hT rfl) ?_
          refine ga_take_at 38 rfl rfl rfl rfl rfl rfl rfl (by kernel_rfl) (fun _ _ _ _ _ h => h) hK (fun w1 hS => op_pure hT rfl) ?_
          refine ga_take 39 rfl rfl rfl rfl (by kernel_rfl) (fun _ _ _ _ _ h => h) hK (fun w1 hS => op_pure hT rfl) ?_
          refine ga_done (by kernel_rfl) ?_
          refine hK25 _ _ ?_
          clear hK25; try clear K25
          refine gc_cond_f rfl ?_
          refine gc_skip ?_
          refine hK22 _ _ ?_
          clear hK22; try clear K22
          refine gc_region ?_
          refine gl_op rfl rfl rfl (op_pure hT rfl) ?_
          first | refine gl_fit hT rfl rfl rfl rfl (by omega) ?_ | refine gl_op rfl rfl rfl (op_pure hT rfl) ?_
          refine gl_op rfl rfl rfl (op_pure hT rfl) ?_
          refine gl_nil ?_
          intro a ha
          exact ⟨q + 1, ha.sub ⟨rfl, rfl, rfl, rfl, rfl, rfl, rfl, trivial⟩, by omega, by omega, hS⟩
        · try simp only [decide_eq_true_eq, decide_eq_false_iff_not, Bool.not_eq_true', Bool.not_eq_false', Int.not_lt, Int.not_le, Nat.not_lt, Nat.not_le, Bool.true_eq, Bool.false_eq, reduceCtorEq] at c143
          refine ga_pass 24 rfl rfl rfl rfl rfl rfl rfl (by kernel_rfl) (fun _ _ _ _ _ h => h) hK ?_
          refine ga_pass 25 rfl rfl rfl rfl rfl rfl rfl (by kernel_rfl) (fun _ _ _ _ _ h => h) hK ?_
          refine ga_pass 26 rfl rfl rfl rfl rfl rfl rfl (by kernel_rfl) (fun _ _ _ _ _ h => h) hK ?_
          refine ga_pass 27 rfl rfl rfl rfl rfl rfl rfl (by kernel_rfl) (fun _ _ _ _ _ h => h) hK ?_
          refine ga_pass 28 rfl rfl rfl rfl rfl rfl rfl (by kernel_rfl) (fun _ _ _ _ _ h => h) hK ?_
          refine ga_pass 29 rfl rfl rfl rfl rfl rfl rfl (by kernel_rfl) (fun _ _ _ _ _ h => h) hK ?_
          refine ga_pass 30 rfl rfl rfl rfl rfl rfl rfl (by kernel_rfl) (fun _ _ _ _ _ h => h) hK ?_
          refine ga_pass 31 rfl rfl rfl rfl rfl rfl rfl (by kernel_rfl) (fun _ _ _ _ _ h => h) hK ?_
          refine ga_pass 32 rfl rfl rfl rfl rfl rfl rfl (by kernel_rfl) (fun _ _ _ _ _ h => h) hK ?_
          refine ga_pass 33 rfl rfl rfl rfl rfl rfl rfl (by kernel_rfl) (fun _ _ _ _ _ h => h) hK ?_
          refine ga_take_at 34 rfl rfl rfl rfl rfl rfl rfl (by kernel_rfl) (fun _ _ _ _ _ h => h) hK (fun w1 hS => op_pure hT rfl) ?_
          refine ga_take 35 rfl rfl rfl rfl (by kernel_rfl) (fun _ _ _ _ _ h => h) hK (fun w1 hS => op_pure hT rfl) ?_
          refine ga_take 36 rfl rfl rfl rfl (by kernel_rfl) (fun _ _ _ _ _ h => h) hK (fun w1 hS => op_pure hT rfl) ?_
          refine ga_take_at 37 rfl rfl rfl rfl rfl rfl rfl (by kernel_rfl) (fun _ _ _ _ _ h => h) hK (fun w1 hS => op_pure hT rfl) ?_
          refine ga_take_at 38 rfl rfl rfl rfl rfl rfl rfl (by kernel_rfl) (fun _ _ _ _ _ h => h) hK (fun w1 hS => op_pure hT rfl) ?_
          refine ga_take 39 rfl rfl rfl rfl (by kernel_rfl) (fun _ _ _ _ _ h => h) hK (fun w1 hS => op_pure hT rfl) ?_
          refine ga_done (by kernel_rfl) ?_
          refine hK25 _ _ ?_
          clear hK25; try clear K25
          refine gc_cond_f rfl ?_
          refine gc_skip ?_
          refine hK22 _ _ ?_
          clear hK22; try clear K22
          refine gc_region ?_
          refine gl_op rfl rfl rfl (op_pure hT rfl) ?_
          first | refine gl_fit hT rfl rfl rfl rfl (by omega) ?_ | refine gl_op rfl rfl rfl (op_pure hT rfl) ?_
          refine gl_op rfl rfl rfl (op_pure hT rfl) ?_
          refine gl_nil ?_
          intro a ha
          exact ⟨q + 1, ha.sub ⟨rfl, rfl, rfl, rfl, rfl, rfl, rfl, trivial⟩, by omega, by omega, hS⟩
    · try simp only [decide_eq_true_eq, decide_eq_false_iff_not, Bool.not_eq_true', Bool.not_eq_false', Int.not_lt, Int.not_le, Nat.not_lt, Nat.not_le, Bool.true_eq, Bool.false_eq, reduceCtorEq] at c98
      refine gc_exit ?_
      refine hK18 _ _ ?_
      clear hK18; try clear K18
      refine gc_seq fun K26 hK26 => ?_
      refine gc_region ?_
      refine gl_op rfl rfl rfl (op_loadG 3 Try.underlying32 rfl el32 hS rfl rfl rfl rfl rfl) ?_
      refine gl_op rfl rfl rfl (op_loadG 1 Try.underlying27 rfl el27 hS rfl rfl rfl rfl rfl) ?_
      refine gl_op rfl rfl rfl (op_pure hT rfl) ?_
      obtain ⟨R, hRR⟩ : ∃ R, R = rowV L (mdW seed (lensV L s).1.toNat) (mdB seed (lensV L s).2.1.toNat) (mdZ seed (lensV L s).2.2.1.toNat) (mdY seed (lensV L s).2.2.2.toNat) s i := ⟨_, rfl⟩
      have hRe : (L.k = 12 ∧ R.e = 61) ∨ (L.k ≠ 12 ∧ R.e = 0 ∧ R.cols = pl) := by
        by_cases h12 : L.k = 12
        · left
          refine ⟨h12, ?_⟩
          rw [hRR, ← row_max hout h12]
        · right
          have hb := lens_bd hout
          obtain ⟨ws, bb, he⟩ := row_of (i := (i : Int)) (lw := mdW seed (lensV L s).1.toNat) (lb := mdB seed (lensV L s).2.1.toNat) (lz := mdZ seed (lensV L s).2.2.1.toNat) (lzb := mdY seed (lensV L s).2.2.2.toNat) hout (by unfold winV at hwk; omega) (by
            have hls : listsV L s = (lensV L s, 0) := by unfold listsV; rw [if_neg (by rw [hout]; simp)]
            unfold wholeV
            rw [hls, mdW_len, mdB_len, mdZ_len, mdY_len, decide_eq_true (show ((lensV L s).1.toNat : Int) = (lensV L s).1 by omega), decide_eq_true (show ((lensV L s).2.1.toNat : Int) = (lensV L s).2.1 by omega), decide_eq_true (show ((lensV L s).2.2.1.toNat : Int) = (lensV L s).2.2.1 by omega), decide_eq_true (show ((lensV L s).2.2.2.toNat : Int) = (lensV L s).2.2.2 by omega)]
            rfl) (by omega) (by rw [hM]; omega)
          rw [← hpl] at he
          exact ⟨h12, by rw [hRR, ← he], by rw [hRR, ← he]⟩
      refine gl_callf rfl rfl rfl rfl Try.func15 rfl rfl rfl (row_calls L _ _ _ _ s i _ hLok hs (hmd.rd.keep hS (i := 2) rfl) ⟨by omega, by omega⟩ R hRR) ?_
      rintro _ w164 ⟨A3, c3, A4, c4, rfl, hr3, hr4, hb164⟩
      refine ⟨_, rfl, ?_⟩
      have hS := hS.grown hb164
      refine gl_op rfl rfl rfl (op_pure hT rfl) ?_
      refine gl_op rfl rfl rfl (op_pure hT rfl) ?_
      refine gl_op rfl rfl rfl (op_pure hT rfl) ?_
      refine gl_op rfl rfl rfl (op_pure hT rfl) ?_
      refine gl_op rfl rfl rfl (op_pure hT rfl) ?_
      refine gl_op rfl rfl rfl (op_pure hT rfl) ?_
      refine gl_op rfl rfl rfl (op_pure hT rfl) ?_
      refine gl_op rfl rfl rfl (op_pure hT rfl) ?_
      refine gl_op rfl rfl rfl (op_pure hT rfl) ?_
      refine gl_nil ?_
      refine hK26 _ _ ?_
      clear hK26; try clear K26
      refine gc_seq fun K27 hK27 => ?_
      refine gc_region ?_
      refine gl_op rfl rfl rfl (op_fieldB 0 rfl Try.underlying32 rfl el3 rfl rfl) ?_
      refine gl_op rfl rfl rfl (op_loadB 3 hT hS rfl rfl rfl rfl rfl rfl) ?_
      refine gl_op rfl rfl rfl (op_pure hT rfl) ?_
      refine gl_op rfl rfl rfl (op_pure hT rfl) ?_
      refine gl_split (t := 172) rfl (fun c172 => ?_) (fun c172 => ?_)
      · try simp only [decide_eq_true_eq, decide_eq_false_iff_not, Bool.not_eq_true', Bool.not_eq_false', Int.not_lt, Int.not_le, Nat.not_lt, Nat.not_le, Bool.true_eq, Bool.false_eq, reduceCtorEq] at c172
        refine gl_un rfl rfl rfl rfl ?_
        refine gl_op rfl rfl rfl (op_pure hT rfl) ?_
        refine gl_un rfl rfl rfl rfl ?_
        refine gl_op rfl rfl rfl (op_pure hT rfl) ?_
        refine gl_spell 174 (v := .bool false) rfl (by rw [show R.e = 0 by omega]; rfl) ?_
        refine gl_un rfl rfl rfl rfl ?_
        refine gl_op rfl rfl rfl (op_pure hT rfl) ?_
        refine gl_un rfl rfl rfl rfl ?_
        refine gl_op rfl rfl rfl (op_pure hT rfl) ?_
        refine gl_un rfl rfl rfl rfl ?_
        refine gl_op rfl rfl rfl (op_pure hT rfl) ?_
        refine gl_un rfl rfl rfl rfl ?_
        have hcp : R.cols = pl := by
          rcases hRe with h | h
          · exact absurd h.1 c172
          · exact h.2.2
        refine gl_callf rfl rfl rfl rfl Try.func20 rfl rfl rfl (sameIntsN_calls A3 A1 _ _ _ _ R.cols pl _ hcp hr3 rfl (hS.keepRd (i := 4) rfl hr1) rfl (by rw [hcp]; omega)) ?_
        rintro _ w178 ⟨rfl, hb178⟩
        refine ⟨_, rfl, ?_⟩
        have hS := hS.grown hb178
        refine gl_un rfl rfl rfl rfl ?_
        refine gl_op rfl rfl rfl (op_pure hT rfl) ?_
        refine gl_un rfl rfl rfl rfl ?_
        refine gl_op rfl rfl rfl (op_pure hT rfl) ?_
        refine gl_op rfl rfl rfl (op_pure hT rfl) ?_
        refine gl_op rfl rfl rfl (op_pure hT rfl) ?_
        refine gl_un rfl rfl rfl rfl ?_
        refine gl_op rfl rfl rfl (op_fieldB 0 rfl Try.underlying32 rfl el3 rfl rfl) ?_
        refine gl_un rfl rfl rfl rfl ?_
        refine gl_op rfl rfl rfl (op_loadB 3 hT hS rfl rfl rfl rfl rfl rfl) ?_
        refine gl_un rfl rfl rfl rfl ?_
        refine gl_op rfl rfl rfl (op_pure hT rfl) ?_
        refine gl_un rfl rfl rfl rfl ?_
        refine gl_op rfl rfl rfl (op_pure hT rfl) ?_
        refine gl_split (t := 186) rfl (fun c186 => ?_) (fun c186 => ?_)
        · try simp only [decide_eq_true_eq, decide_eq_false_iff_not, Bool.not_eq_true', Bool.not_eq_false', Int.not_lt, Int.not_le, Nat.not_lt, Nat.not_le, Bool.true_eq, Bool.false_eq, reduceCtorEq] at c186
          refine gl_un rfl rfl rfl rfl ?_
          refine gl_op rfl rfl rfl (op_pure hT rfl) ?_
          refine gl_un rfl rfl rfl rfl ?_
          refine gl_op rfl rfl rfl (op_pure hT rfl) ?_
          refine gl_spell 188 (v := .bool false) rfl (by rw [show R.e = 61 by omega]; rfl) ?_
          refine gl_un rfl rfl rfl rfl ?_
          refine gl_op rfl rfl rfl (op_pure hT rfl) ?_
          refine gl_op rfl rfl rfl (op_pure hT rfl) ?_
          refine gl_nil ?_
          refine hK27 _ _ ?_
          clear hK27; try clear K27
          refine gc_cond_f rfl ?_
          refine gc_skip ?_
          refine hK14 _ _ ?_
          clear hK14; try clear K14
          refine gc_region ?_
          refine gl_op rfl rfl rfl (op_pure hT rfl) ?_
          first | refine gl_fit hT rfl rfl rfl rfl (by omega) ?_ | refine gl_op rfl rfl rfl (op_pure hT rfl) ?_
          refine gl_op rfl rfl rfl (op_pure hT rfl) ?_
          refine gl_nil ?_
          intro a ha
          have hS := hS.pre 4
          exact ⟨i + 1, ha.sub ⟨rfl, rfl, rfl, rfl, rfl, trivial⟩, by omega, by omega, hS⟩
        · try simp only [decide_eq_true_eq, decide_eq_false_iff_not, Bool.not_eq_true', Bool.not_eq_false', Int.not_lt, Int.not_le, Nat.not_lt, Nat.not_le, Bool.true_eq, Bool.false_eq, reduceCtorEq] at c186
          refine gl_pass rfl rfl rfl rfl rfl rfl ?_
          refine gl_pass rfl rfl rfl rfl rfl rfl ?_
          refine gl_un rfl rfl rfl rfl ?_
          refine gl_op rfl rfl rfl (op_pure hT rfl) ?_
          refine gl_op rfl rfl rfl (op_pure hT rfl) ?_
          refine gl_nil ?_
          refine hK27 _ _ ?_
          clear hK27; try clear K27
          refine gc_cond_f rfl ?_
          refine gc_skip ?_
          refine hK14 _ _ ?_
          clear hK14; try clear K14
          refine gc_region ?_
          refine gl_op rfl rfl rfl (op_pure hT rfl) ?_
          first | refine gl_fit hT rfl rfl rfl rfl (by omega) ?_ | refine gl_op rfl rfl rfl (op_pure hT rfl) ?_
          refine gl_op rfl rfl rfl (op_pure hT rfl) ?_
          refine gl_nil ?_
          intro a ha
          have hS := hS.pre 4
          exact ⟨i + 1, ha.sub ⟨rfl, rfl, rfl, rfl, rfl, trivial⟩, by omega, by omega, hS⟩
      · try simp only [decide_eq_true_eq, decide_eq_false_iff_not, Bool.not_eq_true', Bool.not_eq_false', Int.not_lt, Int.not_le, Nat.not_lt, Nat.not_le, Bool.true_eq, Bool.false_eq, reduceCtorEq] at c172
        refine gl_pass rfl rfl rfl rfl rfl rfl ?_
        refine gl_pass rfl rfl rfl rfl rfl rfl ?_
        refine gl_pass rfl rfl rfl rfl rfl rfl ?_
        refine gl_none rfl rfl rfl rfl rfl ?_
        refine gl_none rfl rfl rfl rfl rfl ?_
        refine gl_none rfl rfl rfl rfl rfl ?_
        refine gl_none rfl rfl rfl rfl rfl ?_
        refine gl_pass rfl rfl rfl rfl rfl rfl ?_
        refine gl_op rfl rfl rfl (op_pure hT rfl) ?_
        refine gl_op rfl rfl rfl (op_pure hT rfl) ?_
        refine gl_un rfl rfl rfl rfl ?_
        refine gl_op rfl rfl rfl (op_fieldB 0 rfl Try.underlying32 rfl el3 rfl rfl) ?_
        refine gl_un rfl rfl rfl rfl ?_
        refine gl_op rfl rfl rfl (op_loadB 3 hT hS rfl rfl rfl rfl rfl rfl) ?_
        refine gl_un rfl rfl rfl rfl ?_
        refine gl_op rfl rfl rfl (op_pure hT rfl) ?_
        refine gl_un rfl rfl rfl rfl ?_
        refine gl_op rfl rfl rfl (op_pure hT rfl) ?_
        refine gl_split (t := 186) rfl (fun c186 => ?_) (fun c186 => ?_)
        · try simp only [decide_eq_true_eq, decide_eq_false_iff_not, Bool.not_eq_true', Bool.not_eq_false', Int.not_lt, Int.not_le, Nat.not_lt, Nat.not_le, Bool.true_eq, Bool.false_eq, reduceCtorEq] at c186
          refine gl_un rfl rfl rfl rfl ?_
          refine gl_op rfl rfl rfl (op_pure hT rfl) ?_
          refine gl_un rfl rfl rfl rfl ?_
          refine gl_op rfl rfl rfl (op_pure hT rfl) ?_
          refine gl_spell 188 (v := .bool false) rfl (by rw [show R.e = 61 by omega]; rfl) ?_
          refine gl_un rfl rfl rfl rfl ?_
          refine gl_op rfl rfl rfl (op_pure hT rfl) ?_
          refine gl_op rfl rfl rfl (op_pure hT rfl) ?_
          refine gl_nil ?_
          refine hK27 _ _ ?_
          clear hK27; try clear K27
          refine gc_cond_f rfl ?_
          refine gc_skip ?_
          refine hK14 _ _ ?_
          clear hK14; try clear K14
          refine gc_region ?_
          refine gl_op rfl rfl rfl (op_pure hT rfl) ?_
          first | refine gl_fit hT rfl rfl rfl rfl (by omega) ?_ | refine gl_op rfl rfl rfl (op_pure hT rfl) ?_
          refine gl_op rfl rfl rfl (op_pure hT rfl) ?_
          refine gl_nil ?_
          intro a ha
          have hS := hS.pre 4
          exact ⟨i + 1, ha.sub ⟨rfl, rfl, rfl, rfl, rfl, trivial⟩, by omega, by omega, hS⟩
        · try simp only [decide_eq_true_eq, decide_eq_false_iff_not, Bool.not_eq_true', Bool.not_eq_false', Int.not_lt, Int.not_le, Nat.not_lt, Nat.not_le, Bool.true_eq, Bool.false_eq, reduceCtorEq] at c186
          refine gl_pass rfl rfl rfl rfl rfl rfl ?_
          refine gl_pass rfl rfl rfl rfl rfl rfl ?_
          refine gl_un rfl rfl rfl rfl ?_
          refine gl_op rfl rfl rfl (op_pure hT rfl) ?_
          refine gl_op rfl rfl rfl (op_pure hT rfl) ?_
          refine gl_nil ?_
          refine hK27 _ _ ?_
          clear hK27; try clear K27
          refine gc_cond_f rfl ?_
          refine gc_skip ?_
          refine hK14 _ _ ?_
          clear hK14; try clear K14
          refine gc_region ?_
          refine gl_op rfl rfl rfl (op_pure hT rfl) ?_
          first | refine gl_fit hT rfl rfl rfl rfl (by omega) ?_ | refine gl_op rfl rfl rfl (op_pure hT rfl) ?_
          refine gl_op rfl rfl rfl (op_pure hT rfl) ?_
          refine gl_nil ?_
          intro a ha
          have hS := hS.pre 4
          exact ⟨i + 1, ha.sub ⟨rfl, rfl, rfl, rfl, rfl, trivial⟩, by omega, by omega, hS⟩
  · try simp only [decide_eq_true_eq, decide_eq_false_iff_not, Bool.not_eq_true', Bool.not_eq_false', Int.not_lt, Int.not_le, Nat.not_lt, Nat.not_le, Bool.true_eq, Bool.false_eq, reduceCtorEq] at c65
    refine gc_exit ?_
    refine hK10 _ _ ?_
    clear hK10; try clear K10
    refine gc_seq fun K28 hK28 => ?_
    refine gc_region ?_
    refine gl_op rfl rfl rfl (op_pure hT rfl) ?_
    refine gl_nil ?_
    refine hK28 _ _ ?_
    clear hK28; try clear K28
    refine gc_ret ?_
    try simp only [x_then_ret, x_block_ret]
    refine gk_ret1 rfl rfl ?_
    exact ⟨rfl, hS.below⟩
end Go.Proofs.Ytkfhablonnjgeaa
