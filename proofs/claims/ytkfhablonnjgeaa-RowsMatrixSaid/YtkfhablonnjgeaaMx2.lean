/- The contract of ambitlaw7.plain. No condition. -/
import Derived.Test.YtkfhablonnjgeaaMx1
namespace Go.Proofs.Ytkfhablonnjgeaa
open Go.RowKit
set_option linter.unusedVariables false
set_option linter.unusedSimpArgs false
/-- What is written out by loops, of all coordinates ahead of n. -/
def wantL (L : Ly) (lw lb : List Nat) (lz lzb : List (Nat × Nat)) (s : Sh) (v : List Int) (n : Nat) : List Int := (List.range n).map fun (i : Nat) => wantAt L lw lb lz lzb s v i
section
variable (L : Ly) (lw lb : List Nat) (lz lzb : List (Nat × Nat)) (s : Sh) (v : List Int) (n : Nat)
theorem wantL_succ : wantL L lw lb lz lzb s v (n + 1) = wantL L lw lb lz lzb s v n ++ [wantAt L lw lb lz lzb s v n] := by simp [wantL, List.range_succ]
theorem wantL_len : (wantL L lw lb lz lzb s v n).length = n := by simp [wantL]
theorem wantL_wins (h : L.k = 2 ∨ L.k = 4) : winsV L lw lb s v n = wantL L lw lb lz lzb s v n := by
  unfold winsV wantL wantAt
  simp only [if_neg (show ¬ L.k = 1 by omega), if_neg (show ¬ L.k = 3 by omega), if_neg (show ¬ L.k = 6 by omega)]
end
theorem dense_bd {lw : List Nat} {v : List Int} (hw : smL lw) (hsv : Sml v) (n i j : Nat) : -81 ≤ iF (lw.getD (i * n + j) 0) * v.getD j 0 ∧ iF (lw.getD (i * n + j) 0) * v.getD j 0 ≤ 81 := mul9 (hw.at _).two.toI.2 (hsv _)
set_option maxHeartbeats 8000000 in
set_option maxRecDepth 100000 in
theorem plain_calls (L : Ly) (lw lb : List Nat) (lz lzb : List (Nat × Nat)) (s : Sh) (A : Option Addr) (n c : Nat) (v : List Int) (w : World) {ok okv : Nat → Prop} (D : LyD w ok L lw lb lz lzb) (hv : RdE w okv nV A v) (hn : n = v.length) (hM : MxOk L lw lb lz lzb s) (hsv : Sml v) (hvl : (v.length : Int) = s.c * s.h * s.w)
    (M : Nat) (hMo : (outS L s).c * (outS L s).h * (outS L s).w = (M : Int)) :
    Calls Try.prog 12 ⟨[.agg ⟨lyC L⟩, .agg ⟨shC s⟩, .slice A n c]⟩ w fun e w' => ∃ A' m c' K, e = .returned (.slice A' m c') ∧ (L.k = 1 ∨ L.k = 3 ∨ L.k = 6 → m = M ∧ RdE w' K nV A' (wantL L lw lb lz lzb s v M)) ∧ St w.heap.size w w' [.keep K w'] := by
  subst hn
  obtain ⟨hf0, hsz, _, hn6, _⟩ := outV_zero hM.out
  obtain ⟨_, _, hfo⟩ := fv_zero hf0
  have hgs := sz_good hsz
  have hgo := out_of_count hM.out
  have hout := fld_out hfo
  have hlin := hM.lin
  obtain ⟨N, hN⟩ : ∃ N : Nat, v.length = N := ⟨_, rfl⟩
  rw [hN] at hvl ⊢
  have hnW := D.nW
  have hnB := D.nB
  have hnZ := D.nZ
  have hnZB := D.nZB
  obtain ⟨O, hO⟩ : ∃ O : Nat, L.out = (O : Int) := ⟨L.out.toNat, by omega⟩
  have m3 := mul_bd (a := s.h) (b := s.w) (A := 256) (B := 256) (by omega) (by omega) (by omega) (by omega)
  refine gc_enter (N := 193) Try.func12 rfl rfl rfl [(0, _), (1, _), (2, _)] rfl ?_
  have hS := St.start w
  refine gc_seq fun K1 hK1 => ?_
  refine gc_region ?_
  refine gl_box hS rfl rfl rfl rfl rfl fun g3 w3 hS => ?_
  refine gl_box hS rfl rfl rfl rfl rfl fun g4 w4 hS => ?_
  refine gl_op rfl rfl rfl (op_pure hT rfl) ?_
  refine gl_nil ?_
  refine hK1 _ _ ?_
  clear hK1; try clear K1
  refine gc_seq fun K2 hK2 => ?_
  refine gc_region ?_
  refine gl_op rfl rfl rfl (op_pure hT rfl) ?_
  refine gl_op rfl rfl rfl (op_pure hT rfl) ?_
  refine gl_op rfl rfl rfl (op_pure hT rfl) ?_
  refine gl_nil ?_
  refine hK2 _ _ ?_
  clear hK2; try clear K2
  refine gc_seq fun K3 hK3 => ?_
  refine gc_region ?_
  refine gl_op rfl rfl rfl (op_pure hT rfl) ?_
  refine gl_nil ?_
  refine hK3 _ _ ?_
  clear hK3; try clear K3
  refine gc_seq fun K4 hK4 => ?_
  refine gc_seq fun K5 hK5 => ?_
  refine gc_region ?_
  refine gl_op rfl rfl rfl (op_fieldB 0 rfl Try.underlying32 rfl el3 rfl rfl) ?_
  refine gl_op rfl rfl rfl (op_loadB 0 hT hS rfl rfl rfl rfl rfl rfl) ?_
  refine gl_nil ?_
  refine hK5 _ _ ?_
  clear hK5; try clear K5
  refine gc_block ?_
  refine gc_seq fun K6 hK6 => ?_
  refine gc_region ?_
  refine gl_op rfl rfl rfl (op_pure hT rfl) ?_
  refine gl_op rfl rfl rfl (op_pure hT rfl) ?_
  refine gl_nil ?_
  refine hK6 _ _ ?_
  clear hK6; try clear K6
  refine gc_cond rfl rfl (fun c24 => ?_) (fun c24 => ?_)
  · try simp only [decide_eq_true_eq, decide_eq_false_iff_not, Bool.not_eq_true', Bool.not_eq_false', Int.not_lt, Int.not_le, Nat.not_lt, Nat.not_le, Bool.true_eq, Bool.false_eq, reduceCtorEq] at c24
    have hos : outS L s = ⟨L.out, 1, 1⟩ := by unfold outS; rw [if_pos c24]
    have hls : lensV L s = (L.out * N, L.out, 0, 0) := by unfold lensV; rw [if_pos c24, ← hvl]
    have hw1 := hM.nw
    have hw2 := hM.nb
    rw [hls] at hw1 hw2
    rw [hos] at hMo
    simp only [Int.mul_one] at hMo
    have hOM : O = M := by omega
    subst hOM
    have hwa : ∀ i, wantAt L lw lb lz lzb s v i = denseS lw lb N v i := fun i => by unfold wantAt; rw [if_pos c24, ← hvl, Int.toNat_natCast]
    simp only at hw1 hw2
    have hS := hS.nil 3 1
    refine gc_seq fun K7 hK7 => ?_
    refine gc_region ?_
    refine gl_op rfl rfl rfl (op_pure hT rfl) ?_
    refine gl_nil ?_
    refine hK7 _ _ ?_
    clear hK7; try clear K7
    refine gc_block ?_
    refine gc_loop (fun kk a w' => ∃ (i : Nat) (Ao : Option Addr) (co : Nat), Fr 193 a [(2, .slice A N c), (3, .pointer (some ⟨g3, 0, none⟩)), (4, .pointer (some ⟨g4, 0, none⟩)), (7, .int .i64 (N : Nat)), (8, .slice Ao i co), (9, .int .i64 (i : Nat))] ∧ i ≤ O ∧ kk = O + 1 - i ∧
      St w.heap.size w w' [.blk g3 32 (lyC L), .blk g4 27 (shC s), .row Ao co 3 1 i ((wantL L lw lb lz lzb s v i).map nV)]) (O + 1) ?_ ?_ ?_
    · intro a ha; exact ⟨0, none, 0, ha.sub ⟨rfl, rfl, rfl, rfl, rfl, rfl, trivial⟩, by omega, by omega, hS⟩
    · rintro a w' ⟨p, _, _, _, h1, h2, _⟩; omega
    rintro kk a w1 ⟨i, Ao, co, hF, hi, hkk, hS⟩
    refine gc_of hF ?_
    clear hF
    refine gc_seq fun K8 hK8 => ?_
    refine gc_seq fun K9 hK9 => ?_
    refine gc_region ?_
    refine gl_op rfl rfl rfl (op_pure hT rfl) ?_
    refine gl_op rfl rfl rfl (op_fieldB 1 rfl Try.underlying32 rfl el3 rfl rfl) ?_
    refine gl_op rfl rfl rfl (op_loadB 0 hT hS rfl rfl rfl rfl rfl rfl) ?_
    refine gl_op rfl rfl rfl (op_pure hT rfl) ?_
    refine gl_nil ?_
    refine hK9 _ _ ?_
    clear hK9; try clear K9
    refine gc_cond rfl rfl (fun c29 => ?_) (fun c29 => ?_)
    · try simp only [decide_eq_true_eq, decide_eq_false_iff_not, Bool.not_eq_true', Bool.not_eq_false', Int.not_lt, Int.not_le, Nat.not_lt, Nat.not_le, Bool.true_eq, Bool.false_eq, reduceCtorEq] at c29
      refine gc_skip ?_
      refine hK8 _ _ ?_
      clear hK8; try clear K8
      refine gc_seq fun K10 hK10 => ?_
      refine gc_block ?_
      refine gc_seq fun K11 hK11 => ?_
      refine gc_region ?_
      refine gl_op rfl rfl rfl (op_fieldB 11 rfl Try.underlying32 rfl el29 rfl rfl) ?_
      refine gl_op rfl rfl rfl (op_loadB 0 hT hS rfl rfl rfl rfl rfl rfl) ?_
      refine gl_op rfl rfl rfl (op_pure hT rfl) ?_
      have hiO : i < O := by omega
      obtain ⟨adB, hAB, hcB⟩ := D.rB.at 0 (i := (i : Int)) (by omega) (by omega)
      have hbI := (hM.sb.at ((i : Int)).toNat).two.toI
      rw [Int.toNat_natCast] at hbI
      refine gl_op rfl rfl rfl (op_indexAddr hT rfl rfl el28.cellsOf.1 el28.cellsOf.2 rfl rfl (by omega) (by omega) hAB) ?_
      refine gl_op rfl rfl rfl (op_load hT rfl rfl rfl rfl (cellOf hS.below hcB)) ?_
      refine gl_op rfl rfl rfl (op_f2i hT rfl rfl rfl rfl hbI.1 (by omega)) ?_
      refine gl_op rfl rfl rfl (op_pure hT rfl) ?_
      refine gl_nil ?_
      refine hK11 _ _ ?_
      clear hK11; try clear K11
      refine gc_seq fun K12 hK12 => ?_
      refine gc_seq fun K13 hK13 => ?_
      refine gc_region ?_
      refine gl_op rfl rfl rfl (op_pure hT rfl) ?_
      refine gl_nil ?_
      refine hK13 _ _ ?_
      clear hK13; try clear K13
      refine gc_block ?_
      refine gc_loop (fun kk a w' => ∃ (j : Nat), Fr 193 a [(2, .slice A N c), (3, .pointer (some ⟨g3, 0, none⟩)), (4, .pointer (some ⟨g4, 0, none⟩)), (7, .int .i64 (N : Nat)), (8, .slice Ao i co), (9, .int .i64 (i : Nat)), (10, .int .i64 (iF (lb.getD i 0) + sumN (fun j => iF (lw.getD (i * N + j) 0) * v.getD j 0) j)), (11, .int .i64 (j : Nat))] ∧ j ≤ N ∧ kk = N + 1 - j ∧
        St w.heap.size w w' [.blk g3 32 (lyC L), .blk g4 27 (shC s), .row Ao co 3 1 i ((wantL L lw lb lz lzb s v i).map nV)]) (N + 1) ?_ ?_ ?_
      · intro a ha; exact ⟨0, ha.sub ⟨rfl, rfl, rfl, rfl, rfl, rfl, congrArg some (congrArg (Value.int .i64) (Int.add_zero _).symm), rfl, trivial⟩, by omega, by omega, hS⟩
      · rintro a w' ⟨p, _, h1, h2, _⟩; omega
      rintro kk a w1 ⟨j, hF, hj, hkk, hS⟩
      refine gc_of hF ?_
      clear hF
      have hsb := sumN_abs (g := fun j => iF (lw.getD (i * N + j) 0) * v.getD j 0) (B := 81) (n := j) fun j _ => dense_bd hM.sw hsv N i j
      refine gc_seq fun K14 hK14 => ?_
      refine gc_seq fun K15 hK15 => ?_
      refine gc_region ?_
      refine gl_op rfl rfl rfl (op_pure hT rfl) ?_
      refine gl_op rfl rfl rfl (op_pure hT rfl) ?_
      refine gl_op rfl rfl rfl (op_pure hT rfl) ?_
      refine gl_nil ?_
      refine hK15 _ _ ?_
      clear hK15; try clear K15
      refine gc_cond rfl rfl (fun c40 => ?_) (fun c40 => ?_)
      · try simp only [decide_eq_true_eq, decide_eq_false_iff_not, Bool.not_eq_true', Bool.not_eq_false', Int.not_lt, Int.not_le, Nat.not_lt, Nat.not_le, Bool.true_eq, Bool.false_eq, reduceCtorEq] at c40
        refine gc_skip ?_
        refine hK14 _ _ ?_
        clear hK14; try clear K14
        refine gc_seq fun K16 hK16 => ?_
        refine gc_block ?_
        refine gc_anyS hS (by kernel_rfl) rfl fun nq12 hK => ?_
        have hS := hS.dr nq12
        have hjN : j < N := by omega
        have e1 : ((i : Int) + 1) * (N : Int) ≤ (O : Int) * N := Int.mul_le_mul_of_nonneg_right (by omega) (by omega)
        have e2 : ((i : Int) + 1) * (N : Int) = (i : Int) * N + N := by rw [Int.add_mul, Int.one_mul]
        have e3 := mul_bd0 (a := (i : Int)) (b := (N : Int)) (A := 256) (B := 256) (by omega) (by omega) (by omega) (by omega)
        rw [hO] at hw1
        have e4 : ((i : Int) * (N : Int) + j).toNat = i * N + j := by rw [← Int.natCast_mul]; omega
        obtain ⟨adW, hAW, hcW⟩ := D.rW.at 0 (i := (i : Int) * N + j) (by omega) (by omega)
        rw [e4] at hcW
        have hwI := (hM.sw.at (i * N + j)).two.toI
        obtain ⟨adV, hAV, hcV⟩ := hv.at 0 (i := (j : Int)) (by omega) (by omega)
        rw [Int.toNat_natCast] at hcV
        have hpb := dense_bd hM.sw hsv N i j
        refine ga_take 0 rfl rfl rfl rfl (by kernel_rfl) (fun _ _ _ _ _ h => h) hK (fun w1 hS => op_pure hT rfl) ?_
        refine ga_take 1 rfl rfl rfl rfl (by kernel_rfl) (fun _ _ _ _ _ h => h) hK (fun w1 hS => op_fieldB 10 rfl Try.underlying32 rfl el29 rfl rfl) ?_
        refine ga_take 2 rfl rfl rfl rfl (by kernel_rfl) (fun _ _ _ _ _ h => h) hK (fun w1 hS => op_loadB 0 hT hS rfl rfl rfl rfl rfl rfl) ?_
        refine ga_take 3 rfl rfl rfl rfl (by kernel_rfl) (fun _ _ _ _ _ h => h) hK (fun w1 hS => op_pure hT rfl) ?_
        refine ga_take 4 rfl rfl rfl rfl (by kernel_rfl) (fun _ _ _ _ _ h => h) hK (fun w1 hS => op_pure hT rfl) ?_
        refine ga_take 5 rfl rfl rfl rfl (by kernel_rfl) (fun _ _ _ _ _ h => h) hK (fun w1 hS => (by first | exact op_fit hT rfl (by omega) | exact op_pure hT rfl)) ?_
        refine ga_take 6 rfl rfl rfl rfl (by kernel_rfl) (fun _ _ _ _ _ h => h) hK (fun w1 hS => op_pure hT rfl) ?_
        refine ga_take 7 rfl rfl rfl rfl (by kernel_rfl) (fun _ _ _ _ _ h => h) hK (fun w1 hS => (by first | exact op_fit hT rfl (by omega) | exact op_pure hT rfl)) ?_
        refine ga_take 8 rfl rfl rfl rfl (by kernel_rfl) (fun _ _ _ _ _ h => h) hK (fun w1 hS => op_indexAddr hT rfl rfl el28.cellsOf.1 el28.cellsOf.2 rfl rfl (by omega) (by omega) hAW) ?_
        refine ga_spell 51 (v := .pointer (some (adW.add ((i * N + j) * 1)))) rfl (by rw [e4]) ?_
        refine ga_take 9 rfl rfl rfl rfl (by kernel_rfl) (fun _ _ _ _ _ h => h) hK (fun w1 hS => op_load hT rfl rfl rfl rfl (cellOf hS.below hcW)) ?_
        refine ga_take 10 rfl rfl rfl rfl (by kernel_rfl) (fun _ _ _ _ _ h => h) hK (fun w1 hS => op_f2i hT rfl rfl rfl rfl hwI.1 (by omega)) ?_
        refine ga_take 11 rfl rfl rfl rfl (by kernel_rfl) (fun _ _ _ _ _ h => h) hK (fun w1 hS => op_pure hT rfl) ?_
        refine ga_take 12 rfl rfl rfl rfl (by kernel_rfl) (fun _ _ _ _ _ h => h) hK (fun w1 hS => op_pure hT rfl) ?_
        refine ga_take 13 rfl rfl rfl rfl (by kernel_rfl) (fun _ _ _ _ _ h => h) hK (fun w1 hS => op_indexAddr hT rfl rfl el3.cellsOf.1 el3.cellsOf.2 rfl rfl (by omega) (by omega) hAV) ?_
        refine ga_spell 56 (v := .pointer (some (adV.add (j * 1)))) rfl (by rw [Int.toNat_natCast]) ?_
        refine ga_take 14 rfl rfl rfl rfl (by kernel_rfl) (fun _ _ _ _ _ h => h) hK (fun w1 hS => op_load hT rfl rfl rfl rfl (cellOf hS.below hcV)) ?_
        refine ga_take 15 rfl rfl rfl rfl (by kernel_rfl) (fun _ _ _ _ _ h => h) hK (fun w1 hS => (by first | exact op_fit hT rfl (by omega) | exact op_pure hT rfl)) ?_
        refine ga_take 16 rfl rfl rfl rfl (by kernel_rfl) (fun _ _ _ _ _ h => h) hK (fun w1 hS => (by first | exact op_fit hT rfl (by omega) | exact op_pure hT rfl)) ?_
        refine ga_spell 59 (v := .int .i64 (iF (lb.getD i 0) + sumN (fun j => iF (lw.getD (i * N + j) 0) * v.getD j 0) (j + 1))) rfl (congrArg (Value.int .i64) (Int.add_assoc _ _ _)) ?_
        refine ga_take 17 rfl rfl rfl rfl (by kernel_rfl) (fun _ _ _ _ _ h => h) hK (fun w1 hS => op_pure hT rfl) ?_
        refine ga_done (by kernel_rfl) ?_
        refine hK16 _ _ ?_
        clear hK16; try clear K16
        refine gc_region ?_
        refine gl_op rfl rfl rfl (op_pure hT rfl) ?_
        first | refine gl_fit hT rfl rfl rfl rfl (by omega) ?_ | refine gl_op rfl rfl rfl (op_pure hT rfl) ?_
        refine gl_op rfl rfl rfl (op_pure hT rfl) ?_
        refine gl_nil ?_
        intro a ha
        exact ⟨j + 1, ha.sub ⟨rfl, rfl, rfl, rfl, rfl, rfl, rfl, rfl, trivial⟩, by omega, by omega, hS⟩
      · try simp only [decide_eq_true_eq, decide_eq_false_iff_not, Bool.not_eq_true', Bool.not_eq_false', Int.not_lt, Int.not_le, Nat.not_lt, Nat.not_le, Bool.true_eq, Bool.false_eq, reduceCtorEq] at c40
        have hjN : j = N := by omega
        subst hjN
        refine gc_exit ?_
        refine hK12 _ _ ?_
        clear hK12; try clear K12
        refine gc_region ?_
        refine gl_op rfl rfl rfl (op_pure hT rfl) ?_
        refine gl_op rfl rfl rfl (op_pure hT rfl) ?_
        refine gl_lit hT hS el3 rfl rfl rfl rfl rfl rfl rfl rfl rfl fun g62 w62 hS => ?_
        refine gl_append 2 hT hS el3 (hS.rd (i := 3) rfl) (rfl) rfl rfl rfl rfl rfl rfl rfl rfl (by first | omega | (simp; omega)) (by first | omega | (simp; omega)) fun A63 c63 w63 hS => ?_
        have hS := hS.erase 3
        refine gl_op rfl rfl rfl (op_pure hT rfl) ?_
        refine gl_nil ?_
        refine hK10 _ _ ?_
        clear hK10; try clear K10
        refine gc_region ?_
        refine gl_op rfl rfl rfl (op_pure hT rfl) ?_
        first | refine gl_fit hT rfl rfl rfl rfl (by omega) ?_ | refine gl_op rfl rfl rfl (op_pure hT rfl) ?_
        refine gl_op rfl rfl rfl (op_pure hT rfl) ?_
        refine gl_nil ?_
        intro a ha
        refine ⟨i + 1, A63, c63, ha.sub ⟨rfl, rfl, rfl, rfl, rfl, rfl, trivial⟩, by omega, by omega, ?_⟩
        rw [wantL_succ, List.map_append, hwa]
        exact hS
    · try simp only [decide_eq_true_eq, decide_eq_false_iff_not, Bool.not_eq_true', Bool.not_eq_false', Int.not_lt, Int.not_le, Nat.not_lt, Nat.not_le, Bool.true_eq, Bool.false_eq, reduceCtorEq] at c29
      have hiO : i = O := by omega
      subst hiO
      refine gc_exit ?_
      refine hK4 _ _ ?_
      clear hK4; try clear K4
      refine gc_seq fun K17 hK17 => ?_
      refine gc_region ?_
      refine gl_op rfl rfl rfl (op_pure hT rfl) ?_
      refine gl_op rfl rfl rfl (op_pure hT rfl) ?_
      refine gl_nil ?_
      refine hK17 _ _ ?_
      clear hK17; try clear K17
      refine gc_ret ?_
      try simp only [x_then_ret, x_block_ret]
      refine gk_ret1 rfl rfl ?_
      exact ⟨Ao, i, co, _, rfl, fun _ => ⟨rfl, rdE_of (hS.rowRd (i := 2) rfl fun b hb => ⟨_, by simp, hb⟩) (wantL_len ..)⟩, hS.keepAll⟩
  · try simp only [decide_eq_true_eq, decide_eq_false_iff_not, Bool.not_eq_true', Bool.not_eq_false', Int.not_lt, Int.not_le, Nat.not_lt, Nat.not_le, Bool.true_eq, Bool.false_eq, reduceCtorEq] at c24
    refine gc_seq fun K18 hK18 => ?_
    refine gc_region ?_
    refine gl_op rfl rfl rfl (op_pure hT rfl) ?_
    refine gl_op rfl rfl rfl (op_pure hT rfl) ?_
    refine gl_nil ?_
    refine hK18 _ _ ?_
    clear hK18; try clear K18
    refine gc_cond rfl rfl (fun c64 => ?_) (fun c64 => ?_)
    · try simp only [decide_eq_true_eq, decide_eq_false_iff_not, Bool.not_eq_true', Bool.not_eq_false', Int.not_lt, Int.not_le, Nat.not_lt, Nat.not_le, Bool.true_eq, Bool.false_eq, reduceCtorEq] at c64
      have hos : outS L s = s := by unfold outS; rw [if_neg (by omega), if_neg (by omega), if_neg (show ¬ winV L.k by unfold winV; omega)]
      have hls : lensV L s = (s.c, s.c, 0, 0) := by unfold lensV; rw [if_neg (by omega), if_neg (by omega), if_pos c64]
      have hw1 := hM.nw
      have hw2 := hM.nb
      rw [hls] at hw1 hw2
      simp only at hw1 hw2
      rw [hos] at hMo
      have hNM : N = M := by omega
      have hwa : ∀ i, wantAt L lw lb lz lzb s v i = scaleS lw lb s v i := fun i => by unfold wantAt; rw [if_neg (by omega), if_pos c64]
      have hS := hS.nil 3 1
      refine gc_seq fun K19 hK19 => ?_
      refine gc_region ?_
      refine gl_op rfl rfl rfl (op_pure hT rfl) ?_
      refine gl_nil ?_
      refine hK19 _ _ ?_
      clear hK19; try clear K19
      refine gc_block ?_
      refine gc_loop (fun kk a w' => ∃ (i : Nat) (Ao : Option Addr) (co : Nat), Fr 193 a [(2, .slice A N c), (3, .pointer (some ⟨g3, 0, none⟩)), (4, .pointer (some ⟨g4, 0, none⟩)), (7, .int .i64 (N : Nat)), (8, .slice Ao i co), (12, .int .i64 (i : Nat))] ∧ i ≤ N ∧ kk = N + 1 - i ∧
        St w.heap.size w w' [.blk g3 32 (lyC L), .blk g4 27 (shC s), .row Ao co 3 1 i ((wantL L lw lb lz lzb s v i).map nV)]) (N + 1) ?_ ?_ ?_
      · intro a ha; exact ⟨0, none, 0, ha.sub ⟨rfl, rfl, rfl, rfl, rfl, rfl, trivial⟩, by omega, by omega, hS⟩
      · rintro a w' ⟨p, _, _, _, h1, h2, _⟩; omega
      rintro kk a w1 ⟨i, Ao, co, hF, hi, hkk, hS⟩
      refine gc_of hF ?_
      clear hF
      refine gc_seq fun K20 hK20 => ?_
      refine gc_seq fun K21 hK21 => ?_
      refine gc_region ?_
      refine gl_op rfl rfl rfl (op_pure hT rfl) ?_
      refine gl_op rfl rfl rfl (op_pure hT rfl) ?_
      refine gl_op rfl rfl rfl (op_pure hT rfl) ?_
      refine gl_nil ?_
      refine hK21 _ _ ?_
      clear hK21; try clear K21
      refine gc_cond rfl rfl (fun c68 => ?_) (fun c68 => ?_)
      · try simp only [decide_eq_true_eq, decide_eq_false_iff_not, Bool.not_eq_true', Bool.not_eq_false', Int.not_lt, Int.not_le, Nat.not_lt, Nat.not_le, Bool.true_eq, Bool.false_eq, reduceCtorEq] at c68
        have q0 : 0 ≤ (i : Int) / (s.h * s.w) := Int.ediv_nonneg (by omega) (by omega)
        have q1 : (i : Int) / (s.h * s.w) < s.c := Int.ediv_lt_of_lt_mul (by omega) (by rw [← Int.mul_assoc]; omega)
        refine gc_skip ?_
        refine hK20 _ _ ?_
        clear hK20; try clear K20
        refine gc_seq fun K22 hK22 => ?_
        refine gc_block ?_
        refine gc_seq fun K23 hK23 => ?_
        refine gc_region ?_
        refine gl_op rfl rfl rfl (op_pure hT rfl) ?_
        refine gl_op rfl rfl rfl (op_fieldB 1 rfl Try.underlying27 rfl el3 rfl rfl) ?_
        refine gl_op rfl rfl rfl (op_loadB 1 hT hS rfl rfl rfl rfl rfl rfl) ?_
        refine gl_op rfl rfl rfl (op_fieldB 2 rfl Try.underlying27 rfl el3 rfl rfl) ?_
        refine gl_op rfl rfl rfl (op_loadB 1 hT hS rfl rfl rfl rfl rfl rfl) ?_
        first | refine gl_fit hT rfl rfl rfl rfl (by omega) ?_ | refine gl_op rfl rfl rfl (op_pure hT rfl) ?_
        first | refine gl_op rfl rfl rfl (op_quo hT rfl (by omega) (by omega)) ?_ | refine gl_op rfl rfl rfl (op_pure hT rfl) ?_ | refine gl_op rfl rfl rfl (op_quoS rfl rfl rfl (by omega) (by omega)) ?_
        refine gl_op rfl rfl rfl (op_pure hT rfl) ?_
        refine gl_nil ?_
        refine hK23 _ _ ?_
        clear hK23; try clear K23
        refine gc_anyS (hS.blank 2) (by kernel_rfl) rfl fun nq19 hK => ?_
        have hS := hS.dr nq19
        obtain ⟨adW, hAW, hcW⟩ := D.rW.at 0 (i := (i : Int) / (s.h * s.w)) (by omega) (by omega)
        obtain ⟨adB, hAB, hcB⟩ := D.rB.at 0 (i := (i : Int) / (s.h * s.w)) (by omega) (by omega)
        have hwI := (hM.sw.at ((i : Int) / (s.h * s.w)).toNat).two.toI
        have hbI := (hM.sb.at ((i : Int) / (s.h * s.w)).toNat).two.toI
        obtain ⟨adV, hAV, hcV⟩ := hv.at 0 (i := (i : Int)) (by omega) (by omega)
        rw [Int.toNat_natCast] at hcV
        have hpb := mul9 hwI.2 (hsv i)
        refine ga_take 0 rfl rfl rfl rfl (by kernel_rfl) (fun _ _ _ _ _ h => h) hK (fun w1 hS => op_pure hT rfl) ?_
        refine ga_take 1 rfl rfl rfl rfl (by kernel_rfl) (fun _ _ _ _ _ h => h) hK (fun w1 hS => op_fieldB 10 rfl Try.underlying32 rfl el29 rfl rfl) ?_
        refine ga_take 2 rfl rfl rfl rfl (by kernel_rfl) (fun _ _ _ _ _ h => h) hK (fun w1 hS => op_loadB 0 hT hS rfl rfl rfl rfl rfl rfl) ?_
        refine ga_take 3 rfl rfl rfl rfl (by kernel_rfl) (fun _ _ _ _ _ h => h) hK (fun w1 hS => op_pure hT rfl) ?_
        refine ga_take 4 rfl rfl rfl rfl (by kernel_rfl) (fun _ _ _ _ _ h => h) hK (fun w1 hS => op_indexAddr hT rfl rfl el28.cellsOf.1 el28.cellsOf.2 rfl rfl (by omega) (by omega) hAW) ?_
        refine ga_take 5 rfl rfl rfl rfl (by kernel_rfl) (fun _ _ _ _ _ h => h) hK (fun w1 hS => op_load hT rfl rfl rfl rfl (cellOf hS.below hcW)) ?_
        refine ga_take 6 rfl rfl rfl rfl (by kernel_rfl) (fun _ _ _ _ _ h => h) hK (fun w1 hS => op_f2i hT rfl rfl rfl rfl hwI.1 (by omega)) ?_
        refine ga_take 7 rfl rfl rfl rfl (by kernel_rfl) (fun _ _ _ _ _ h => h) hK (fun w1 hS => op_pure hT rfl) ?_
        refine ga_take 8 rfl rfl rfl rfl (by kernel_rfl) (fun _ _ _ _ _ h => h) hK (fun w1 hS => op_pure hT rfl) ?_
        refine ga_take 9 rfl rfl rfl rfl (by kernel_rfl) (fun _ _ _ _ _ h => h) hK (fun w1 hS => op_indexAddr hT rfl rfl el3.cellsOf.1 el3.cellsOf.2 rfl rfl (by omega) (by omega) hAV) ?_
        refine ga_spell 87 (v := .pointer (some (adV.add (i * 1)))) rfl (by rw [Int.toNat_natCast]) ?_
        refine ga_take 10 rfl rfl rfl rfl (by kernel_rfl) (fun _ _ _ _ _ h => h) hK (fun w1 hS => op_load hT rfl rfl rfl rfl (cellOf hS.below hcV)) ?_
        refine ga_take 11 rfl rfl rfl rfl (by kernel_rfl) (fun _ _ _ _ _ h => h) hK (fun w1 hS => (by first | exact op_fit hT rfl (by omega) | exact op_pure hT rfl)) ?_
        refine ga_take 12 rfl rfl rfl rfl (by kernel_rfl) (fun _ _ _ _ _ h => h) hK (fun w1 hS => op_fieldB 11 rfl Try.underlying32 rfl el29 rfl rfl) ?_
        refine ga_take 13 rfl rfl rfl rfl (by kernel_rfl) (fun _ _ _ _ _ h => h) hK (fun w1 hS => op_loadB 0 hT hS rfl rfl rfl rfl rfl rfl) ?_
        refine ga_take 14 rfl rfl rfl rfl (by kernel_rfl) (fun _ _ _ _ _ h => h) hK (fun w1 hS => op_pure hT rfl) ?_
        refine ga_take 15 rfl rfl rfl rfl (by kernel_rfl) (fun _ _ _ _ _ h => h) hK (fun w1 hS => op_indexAddr hT rfl rfl el28.cellsOf.1 el28.cellsOf.2 rfl rfl (by omega) (by omega) hAB) ?_
        refine ga_take 16 rfl rfl rfl rfl (by kernel_rfl) (fun _ _ _ _ _ h => h) hK (fun w1 hS => op_load hT rfl rfl rfl rfl (cellOf hS.below hcB)) ?_
        refine ga_take 17 rfl rfl rfl rfl (by kernel_rfl) (fun _ _ _ _ _ h => h) hK (fun w1 hS => op_f2i hT rfl rfl rfl rfl hbI.1 (by omega)) ?_
        refine ga_take 18 rfl rfl rfl rfl (by kernel_rfl) (fun _ _ _ _ _ h => h) hK (fun w1 hS => (by first | exact op_fit hT rfl (by omega) | exact op_pure hT rfl)) ?_
        refine ga_one 19 (by kernel_rfl) rfl ?_
        refine gl_lit hT hS el3 rfl rfl rfl rfl rfl rfl rfl rfl rfl fun g97 w97 hS => ?_
        refine gl_nil ?_
        refine ga_next ((hS.blank 2).pre 3) fun hK => ?_
        refine ga_one 20 (by kernel_rfl) rfl ?_
        refine gl_append 2 hT hS el3 (hS.rd (i := 3) rfl) (rfl) rfl rfl rfl rfl rfl rfl rfl rfl (by first | omega | (simp; omega)) (by first | omega | (simp; omega)) fun A98 c98 w98 hS => ?_
        have hS := hS.erase 3
        refine gl_nil ?_
        refine ga_next ((hS.blank 2).pre 3) fun hK => ?_
        refine ga_take 21 rfl rfl rfl rfl (by kernel_rfl) (fun _ _ _ _ _ h => h) hK (fun w1 hS => op_pure hT rfl) ?_
        refine ga_done (by kernel_rfl) ?_
        refine hK22 _ _ ?_
        clear hK22; try clear K22
        refine gc_region ?_
        refine gl_op rfl rfl rfl (op_pure hT rfl) ?_
        first | refine gl_fit hT rfl rfl rfl rfl (by omega) ?_ | refine gl_op rfl rfl rfl (op_pure hT rfl) ?_
        refine gl_op rfl rfl rfl (op_pure hT rfl) ?_
        refine gl_nil ?_
        intro a ha
        refine ⟨i + 1, A98, c98, ha.sub ⟨rfl, rfl, rfl, rfl, rfl, rfl, trivial⟩, by omega, by omega, ?_⟩
        rw [wantL_succ, List.map_append, hwa]
        exact hS
      · try simp only [decide_eq_true_eq, decide_eq_false_iff_not, Bool.not_eq_true', Bool.not_eq_false', Int.not_lt, Int.not_le, Nat.not_lt, Nat.not_le, Bool.true_eq, Bool.false_eq, reduceCtorEq] at c68
        have hiN : i = M := by omega
        subst hiN
        refine gc_exit ?_
        refine hK4 _ _ ?_
        clear hK4; try clear K4
        refine gc_seq fun K24 hK24 => ?_
        refine gc_region ?_
        refine gl_op rfl rfl rfl (op_pure hT rfl) ?_
        refine gl_op rfl rfl rfl (op_pure hT rfl) ?_
        refine gl_nil ?_
        refine hK24 _ _ ?_
        clear hK24; try clear K24
        refine gc_ret ?_
        try simp only [x_then_ret, x_block_ret]
        refine gk_ret1 rfl rfl ?_
        exact ⟨Ao, i, co, _, rfl, fun _ => ⟨rfl, rdE_of (hS.rowRd (i := 2) rfl fun b hb => ⟨_, by simp, hb⟩) (wantL_len ..)⟩, hS.keepAll⟩
    · try simp only [decide_eq_true_eq, decide_eq_false_iff_not, Bool.not_eq_true', Bool.not_eq_false', Int.not_lt, Int.not_le, Nat.not_lt, Nat.not_le, Bool.true_eq, Bool.false_eq, reduceCtorEq] at c64
      refine gc_seq fun K25 hK25 => ?_
      refine gc_region ?_
      refine gl_op rfl rfl rfl (op_pure hT rfl) ?_
      refine gl_op rfl rfl rfl (op_pure hT rfl) ?_
      refine gl_nil ?_
      refine hK25 _ _ ?_
      clear hK25; try clear K25
      refine gc_cond rfl rfl (fun c99 => ?_) (fun c99 => ?_)
      · try simp only [decide_eq_true_eq, decide_eq_false_iff_not, Bool.not_eq_true', Bool.not_eq_false', Int.not_lt, Int.not_le, Nat.not_lt, Nat.not_le, Bool.true_eq, Bool.false_eq, reduceCtorEq] at c99
        have hos : outS L s = ⟨2 * L.out, 1, 1⟩ := by unfold outS; rw [if_neg (by omega), if_pos c99]
        have hls : lensV L s = (0, 0, L.out * N / 2, L.out) := by unfold lensV; rw [if_neg (by omega), if_neg (by omega), if_neg (by omega), if_pos c99, ← hvl]
        have hw1 := hM.nz
        have hw2 := hM.nzb
        rw [hls] at hw1 hw2
        simp only at hw1 hw2
        rw [hos] at hMo
        simp only [Int.mul_one] at hMo
        have hOM : 2 * O = M := by omega
        rw [← hvl] at hn6
        obtain ⟨G, hG⟩ : ∃ G : Nat, N = 2 * G := ⟨N / 2, by omega⟩
        have hGe : (N : Int) / 2 = (G : Int) := by omega
        have hzl : lz.length = O * G := by
          have e : L.out * (N : Int) = 2 * ((O * G : Nat) : Int) := by rw [hO, hG, Int.natCast_mul, Int.natCast_mul, Int.mul_left_comm]; rfl
          rw [e] at hw1
          omega
        have hwe : ∀ i, wantAt L lw lb lz lzb s v (2 * i) = reS lz lzb G v i := fun i => by unfold wantAt; rw [if_neg (by omega), if_neg (by omega), if_pos c99, ← hvl, Int.toNat_natCast, if_pos (by omega), show N / 2 = G by omega, show 2 * i / 2 = i by omega]
        have hwo : ∀ i, wantAt L lw lb lz lzb s v (2 * i + 1) = imS lz lzb G v i := fun i => by unfold wantAt; rw [if_neg (by omega), if_neg (by omega), if_pos c99, ← hvl, Int.toNat_natCast, if_neg (by omega), show N / 2 = G by omega, show (2 * i + 1) / 2 = i by omega]
        have hS := hS.nil 3 1
        refine gc_seq fun K26 hK26 => ?_
        refine gc_region ?_
        refine gl_op rfl rfl rfl (op_pure hT rfl) ?_
        refine gl_nil ?_
        refine hK26 _ _ ?_
        clear hK26; try clear K26
        refine gc_block ?_
        refine gc_loop (fun kk a w' => ∃ (i : Nat) (Ao : Option Addr) (co : Nat), Fr 193 a [(2, .slice A N c), (3, .pointer (some ⟨g3, 0, none⟩)), (4, .pointer (some ⟨g4, 0, none⟩)), (7, .int .i64 (N : Nat)), (8, .slice Ao (2 * i) co), (14, .int .i64 (i : Nat))] ∧ i ≤ O ∧ kk = O + 1 - i ∧
          St w.heap.size w w' [.blk g3 32 (lyC L), .blk g4 27 (shC s), .row Ao co 3 1 (2 * i) ((wantL L lw lb lz lzb s v (2 * i)).map nV)]) (O + 1) ?_ ?_ ?_
        · intro a ha; exact ⟨0, none, 0, ha.sub ⟨rfl, rfl, rfl, rfl, rfl, rfl, trivial⟩, by omega, by omega, hS⟩
        · rintro a w' ⟨p, _, _, _, h1, h2, _⟩; omega
        rintro kk a w1 ⟨i, Ao, co, hF, hi, hkk, hS⟩
        refine gc_of hF ?_
        clear hF
        refine gc_seq fun K27 hK27 => ?_
        refine gc_seq fun K28 hK28 => ?_
        refine gc_region ?_
        refine gl_op rfl rfl rfl (op_pure hT rfl) ?_
        refine gl_op rfl rfl rfl (op_fieldB 1 rfl Try.underlying32 rfl el3 rfl rfl) ?_
        refine gl_op rfl rfl rfl (op_loadB 0 hT hS rfl rfl rfl rfl rfl rfl) ?_
        refine gl_op rfl rfl rfl (op_pure hT rfl) ?_
        refine gl_nil ?_
        refine hK28 _ _ ?_
        clear hK28; try clear K28
        refine gc_cond rfl rfl (fun c104 => ?_) (fun c104 => ?_)
        · try simp only [decide_eq_true_eq, decide_eq_false_iff_not, Bool.not_eq_true', Bool.not_eq_false', Int.not_lt, Int.not_le, Nat.not_lt, Nat.not_le, Bool.true_eq, Bool.false_eq, reduceCtorEq] at c104
          refine gc_skip ?_
          refine hK27 _ _ ?_
          clear hK27; try clear K27
          refine gc_seq fun K29 hK29 => ?_
          refine gc_block ?_
          refine gc_seq fun K30 hK30 => ?_
          refine gc_anyS hS (by kernel_rfl) rfl fun nq24 hK => ?_
          have hS := hS.dr nq24
          have hiO : i < O := by omega
          obtain ⟨adB, hAB, hcB⟩ := D.rZB.at (0, 0) (i := (i : Int)) (by omega) (by omega)
          rw [Int.toNat_natCast] at hcB
          have hbI := (hM.szb.at i).1.two.toI
          have hbJ := (hM.szb.at i).2.two.toI
          refine ga_take 0 rfl rfl rfl rfl (by kernel_rfl) (fun _ _ _ _ _ h => h) hK (fun w1 hS => op_fieldB 13 rfl Try.underlying32 rfl el30 rfl rfl) ?_
          refine ga_take 1 rfl rfl rfl rfl (by kernel_rfl) (fun _ _ _ _ _ h => h) hK (fun w1 hS => op_loadB 0 hT hS rfl rfl rfl rfl rfl rfl) ?_
          refine ga_take 2 rfl rfl rfl rfl (by kernel_rfl) (fun _ _ _ _ _ h => h) hK (fun w1 hS => op_pure hT rfl) ?_
          refine ga_take 3 rfl rfl rfl rfl (by kernel_rfl) (fun _ _ _ _ _ h => h) hK (fun w1 hS => op_indexAddr hT rfl rfl el52.cellsOf.1 el52.cellsOf.2 rfl rfl (by omega) (by omega) hAB) ?_
          refine ga_spell 110 (v := .pointer (some (adB.add (i * 1)))) rfl (by rw [Int.toNat_natCast]) ?_
          refine ga_take 4 rfl rfl rfl rfl (by kernel_rfl) (fun _ _ _ _ _ h => h) hK (fun w1 hS => op_load hT rfl rfl rfl rfl (cellOf hS.below hcB)) ?_
          refine ga_take 5 rfl rfl rfl rfl (by kernel_rfl) (fun _ _ _ _ _ h => h) hK (fun w1 hS => op_real rfl rfl) ?_
          refine ga_take 6 rfl rfl rfl rfl (by kernel_rfl) (fun _ _ _ _ _ h => h) hK (fun w1 hS => op_f2i hT rfl rfl rfl rfl hbI.1 (by omega)) ?_
          refine ga_take 7 rfl rfl rfl rfl (by kernel_rfl) (fun _ _ _ _ _ h => h) hK (fun w1 hS => op_fieldB 13 rfl Try.underlying32 rfl el30 rfl rfl) ?_
          refine ga_take 8 rfl rfl rfl rfl (by kernel_rfl) (fun _ _ _ _ _ h => h) hK (fun w1 hS => op_loadB 0 hT hS rfl rfl rfl rfl rfl rfl) ?_
          refine ga_take 9 rfl rfl rfl rfl (by kernel_rfl) (fun _ _ _ _ _ h => h) hK (fun w1 hS => op_pure hT rfl) ?_
          refine ga_take 10 rfl rfl rfl rfl (by kernel_rfl) (fun _ _ _ _ _ h => h) hK (fun w1 hS => op_indexAddr hT rfl rfl el52.cellsOf.1 el52.cellsOf.2 rfl rfl (by omega) (by omega) hAB) ?_
          refine ga_spell 117 (v := .pointer (some (adB.add (i * 1)))) rfl (by rw [Int.toNat_natCast]) ?_
          refine ga_take 11 rfl rfl rfl rfl (by kernel_rfl) (fun _ _ _ _ _ h => h) hK (fun w1 hS => op_load hT rfl rfl rfl rfl (cellOf hS.below hcB)) ?_
          refine ga_take 12 rfl rfl rfl rfl (by kernel_rfl) (fun _ _ _ _ _ h => h) hK (fun w1 hS => op_imag rfl rfl) ?_
          refine ga_take 13 rfl rfl rfl rfl (by kernel_rfl) (fun _ _ _ _ _ h => h) hK (fun w1 hS => op_f2i hT rfl rfl rfl rfl hbJ.1 (by omega)) ?_
          refine ga_take 14 rfl rfl rfl rfl (by kernel_rfl) (fun _ _ _ _ _ h => h) hK (fun w1 hS => op_pure hT rfl) ?_
          refine ga_take 15 rfl rfl rfl rfl (by kernel_rfl) (fun _ _ _ _ _ h => h) hK (fun w1 hS => op_pure hT rfl) ?_
          refine ga_done (by kernel_rfl) ?_
          refine hK30 _ _ ?_
          clear hK30; try clear K30
          refine gc_seq fun K31 hK31 => ?_
          refine gc_seq fun K32 hK32 => ?_
          refine gc_region ?_
          refine gl_op rfl rfl rfl (op_pure hT rfl) ?_
          refine gl_nil ?_
          refine hK32 _ _ ?_
          clear hK32; try clear K32
          refine gc_block ?_
          have hRb : ∀ j, -162 ≤ iF (lz.getD (i * G + j) (0, 0)).1 * v.getD (2 * j) 0 - iF (lz.getD (i * G + j) (0, 0)).2 * v.getD (2 * j + 1) 0 ∧ iF (lz.getD (i * G + j) (0, 0)).1 * v.getD (2 * j) 0 - iF (lz.getD (i * G + j) (0, 0)).2 * v.getD (2 * j + 1) 0 ≤ 162 := fun j => by
            have a1 := mul9 (hM.sz.at (i * G + j)).1.two.toI.2 (hsv (2 * j))
            have a2 := mul9 (hM.sz.at (i * G + j)).2.two.toI.2 (hsv (2 * j + 1))
            omega
          have hIb : ∀ j, -162 ≤ iF (lz.getD (i * G + j) (0, 0)).1 * v.getD (2 * j + 1) 0 + iF (lz.getD (i * G + j) (0, 0)).2 * v.getD (2 * j) 0 ∧ iF (lz.getD (i * G + j) (0, 0)).1 * v.getD (2 * j + 1) 0 + iF (lz.getD (i * G + j) (0, 0)).2 * v.getD (2 * j) 0 ≤ 162 := fun j => by
            have a1 := mul9 (hM.sz.at (i * G + j)).1.two.toI.2 (hsv (2 * j + 1))
            have a2 := mul9 (hM.sz.at (i * G + j)).2.two.toI.2 (hsv (2 * j))
            omega
          refine gc_loop (fun kk a w' => ∃ (j : Nat), Fr 193 a [(2, .slice A N c), (3, .pointer (some ⟨g3, 0, none⟩)), (4, .pointer (some ⟨g4, 0, none⟩)), (7, .int .i64 (N : Nat)), (8, .slice Ao (2 * i) co), (14, .int .i64 (i : Nat)), (15, .int .i64 (iF (lzb.getD i (0, 0)).1 + sumN (fun j => iF (lz.getD (i * G + j) (0, 0)).1 * v.getD (2 * j) 0 - iF (lz.getD (i * G + j) (0, 0)).2 * v.getD (2 * j + 1) 0) j)), (16, .int .i64 (iF (lzb.getD i (0, 0)).2 + sumN (fun j => iF (lz.getD (i * G + j) (0, 0)).1 * v.getD (2 * j + 1) 0 + iF (lz.getD (i * G + j) (0, 0)).2 * v.getD (2 * j) 0) j)), (17, .int .i64 (j : Nat))] ∧ j ≤ G ∧ kk = G + 1 - j ∧
            St w.heap.size w w' [.blk g3 32 (lyC L), .blk g4 27 (shC s), .row Ao co 3 1 (2 * i) ((wantL L lw lb lz lzb s v (2 * i)).map nV)]) (G + 1) ?_ ?_ ?_
          · intro a ha; exact ⟨0, ha.sub ⟨rfl, rfl, rfl, rfl, rfl, rfl, congrArg some (congrArg (Value.int .i64) (Int.add_zero _).symm), congrArg some (congrArg (Value.int .i64) (Int.add_zero _).symm), rfl, trivial⟩, by omega, by omega, hS⟩
          · rintro a w' ⟨p, _, h1, h2, _⟩; omega
          rintro kk a w1 ⟨j, hF, hj, hkk, hS⟩
          refine gc_of hF ?_
          clear hF
          have hs1 := sumN_abs (B := 162) (n := j) fun j _ => hRb j
          have hs2 := sumN_abs (B := 162) (n := j) fun j _ => hIb j
          refine gc_seq fun K33 hK33 => ?_
          refine gc_seq fun K34 hK34 => ?_
          refine gc_region ?_
          refine gl_op rfl rfl rfl (op_pure hT rfl) ?_
          first | refine gl_fit hT rfl rfl rfl rfl (by omega) ?_ | refine gl_op rfl rfl rfl (op_pure hT rfl) ?_
          refine gl_op rfl rfl rfl (op_pure hT rfl) ?_
          refine gl_op rfl rfl rfl (op_pure hT rfl) ?_
          refine gl_nil ?_
          refine hK34 _ _ ?_
          clear hK34; try clear K34
          refine gc_cond rfl rfl (fun c124 => ?_) (fun c124 => ?_)
          · try simp only [decide_eq_true_eq, decide_eq_false_iff_not, Bool.not_eq_true', Bool.not_eq_false', Int.not_lt, Int.not_le, Nat.not_lt, Nat.not_le, Bool.true_eq, Bool.false_eq, reduceCtorEq] at c124
            refine gc_skip ?_
            refine hK33 _ _ ?_
            clear hK33; try clear K33
            refine gc_seq fun K35 hK35 => ?_
            refine gc_block ?_
            refine gc_seq fun K36 hK36 => ?_
            refine gc_anyS hS (by kernel_rfl) rfl fun nq28 hK => ?_
            have hS := hS.dr nq28
            have hjG : j < G := by omega
            have e1 : ((i : Int) + 1) * (G : Int) ≤ (O : Int) * G := Int.mul_le_mul_of_nonneg_right (by omega) (by omega)
            have e2 : ((i : Int) + 1) * (G : Int) = (i : Int) * G + G := by rw [Int.add_mul, Int.one_mul]
            have e3 := mul_bd0 (a := (i : Int)) (b := (G : Int)) (A := 256) (B := 256) (by omega) (by omega) (by omega) (by omega)
            have hzl2 : (lz.length : Int) = (O : Int) * G := by rw [hzl, Int.natCast_mul]
            have e4 : ((i : Int) * ((N : Int) / 2) + j).toNat = i * G + j := by rw [hGe, ← Int.natCast_mul]; omega
            have e5 : (i : Int) * ((N : Int) / 2) + j = (i : Int) * G + j := by rw [hGe]
            have e6 : (i : Int) * ((N : Int) / 2) = (i : Int) * G := by rw [hGe]
            obtain ⟨adZ, hAZ, hcZ⟩ := D.rZ.at (0, 0) (i := (i : Int) * ((N : Int) / 2) + j) (by omega) (by omega)
            rw [e4] at hcZ
            have hzI := (hM.sz.at (i * G + j)).1.two.toI
            have hzJ := (hM.sz.at (i * G + j)).2.two.toI
            obtain ⟨adV, hAV, hcV⟩ := hv.at 0 (i := 2 * (j : Int)) (by omega) (by omega)
            obtain ⟨adV2, hAV2, hcV2⟩ := hv.at 0 (i := 2 * (j : Int) + 1) (by omega) (by omega)
            have e7 : (2 * (j : Int)).toNat = 2 * j := by omega
            have e8 : (2 * (j : Int) + 1).toNat = 2 * j + 1 := by omega
            rw [e7] at hcV
            rw [e8] at hcV2
            have a1 := mul9 (hM.sz.at (i * G + j)).1.two.toI.2 (hsv (2 * j))
            have a2 := mul9 (hM.sz.at (i * G + j)).2.two.toI.2 (hsv (2 * j + 1))
            have a3 := mul9 (hM.sz.at (i * G + j)).1.two.toI.2 (hsv (2 * j + 1))
            have a4 := mul9 (hM.sz.at (i * G + j)).2.two.toI.2 (hsv (2 * j))
            refine ga_take 0 rfl rfl rfl rfl (by kernel_rfl) (fun _ _ _ _ _ h => h) hK (fun w1 hS => op_fieldB 12 rfl Try.underlying32 rfl el30 rfl rfl) ?_
            refine ga_take 1 rfl rfl rfl rfl (by kernel_rfl) (fun _ _ _ _ _ h => h) hK (fun w1 hS => op_loadB 0 hT hS rfl rfl rfl rfl rfl rfl) ?_
            refine ga_take 2 rfl rfl rfl rfl (by kernel_rfl) (fun _ _ _ _ _ h => h) hK (fun w1 hS => op_pure hT rfl) ?_
            refine ga_take 3 rfl rfl rfl rfl (by kernel_rfl) (fun _ _ _ _ _ h => h) hK (fun w1 hS => op_pure hT rfl) ?_
            refine ga_take 4 rfl rfl rfl rfl (by kernel_rfl) (fun _ _ _ _ _ h => h) hK (fun w1 hS => (by first | exact op_quo hT rfl (by omega) (by omega) | exact op_pure hT rfl | exact op_quoS rfl rfl rfl (by omega) (by omega))) ?_
            refine ga_take 5 rfl rfl rfl rfl (by kernel_rfl) (fun _ _ _ _ _ h => h) hK (fun w1 hS => (by first | exact op_fit hT rfl (by omega) | exact op_pure hT rfl)) ?_
            refine ga_take 6 rfl rfl rfl rfl (by kernel_rfl) (fun _ _ _ _ _ h => h) hK (fun w1 hS => op_pure hT rfl) ?_
            refine ga_take 7 rfl rfl rfl rfl (by kernel_rfl) (fun _ _ _ _ _ h => h) hK (fun w1 hS => (by first | exact op_fit hT rfl (by omega) | exact op_pure hT rfl)) ?_
            refine ga_take 8 rfl rfl rfl rfl (by kernel_rfl) (fun _ _ _ _ _ h => h) hK (fun w1 hS => op_indexAddr hT rfl rfl el52.cellsOf.1 el52.cellsOf.2 rfl rfl (by omega) (by omega) hAZ) ?_
            refine ga_spell 135 (v := .pointer (some (adZ.add ((i * G + j) * 1)))) rfl (by rw [e4]) ?_
            refine ga_take 9 rfl rfl rfl rfl (by kernel_rfl) (fun _ _ _ _ _ h => h) hK (fun w1 hS => op_load hT rfl rfl rfl rfl (cellOf hS.below hcZ)) ?_
            refine ga_take 10 rfl rfl rfl rfl (by kernel_rfl) (fun _ _ _ _ _ h => h) hK (fun w1 hS => op_real rfl rfl) ?_
            refine ga_take 11 rfl rfl rfl rfl (by kernel_rfl) (fun _ _ _ _ _ h => h) hK (fun w1 hS => op_f2i hT rfl rfl rfl rfl hzI.1 (by omega)) ?_
            refine ga_take 12 rfl rfl rfl rfl (by kernel_rfl) (fun _ _ _ _ _ h => h) hK (fun w1 hS => op_fieldB 12 rfl Try.underlying32 rfl el30 rfl rfl) ?_
            refine ga_take 13 rfl rfl rfl rfl (by kernel_rfl) (fun _ _ _ _ _ h => h) hK (fun w1 hS => op_loadB 0 hT hS rfl rfl rfl rfl rfl rfl) ?_
            refine ga_take 14 rfl rfl rfl rfl (by kernel_rfl) (fun _ _ _ _ _ h => h) hK (fun w1 hS => op_pure hT rfl) ?_
            refine ga_take 15 rfl rfl rfl rfl (by kernel_rfl) (fun _ _ _ _ _ h => h) hK (fun w1 hS => op_pure hT rfl) ?_
            refine ga_take 16 rfl rfl rfl rfl (by kernel_rfl) (fun _ _ _ _ _ h => h) hK (fun w1 hS => (by first | exact op_quo hT rfl (by omega) (by omega) | exact op_pure hT rfl | exact op_quoS rfl rfl rfl (by omega) (by omega))) ?_
            refine ga_take 17 rfl rfl rfl rfl (by kernel_rfl) (fun _ _ _ _ _ h => h) hK (fun w1 hS => (by first | exact op_fit hT rfl (by omega) | exact op_pure hT rfl)) ?_
            refine ga_take 18 rfl rfl rfl rfl (by kernel_rfl) (fun _ _ _ _ _ h => h) hK (fun w1 hS => op_pure hT rfl) ?_
            refine ga_take 19 rfl rfl rfl rfl (by kernel_rfl) (fun _ _ _ _ _ h => h) hK (fun w1 hS => (by first | exact op_fit hT rfl (by omega) | exact op_pure hT rfl)) ?_
            refine ga_take 20 rfl rfl rfl rfl (by kernel_rfl) (fun _ _ _ _ _ h => h) hK (fun w1 hS => op_indexAddr hT rfl rfl el52.cellsOf.1 el52.cellsOf.2 rfl rfl (by omega) (by omega) hAZ) ?_
            refine ga_spell 147 (v := .pointer (some (adZ.add ((i * G + j) * 1)))) rfl (by rw [e4]) ?_
            refine ga_take 21 rfl rfl rfl rfl (by kernel_rfl) (fun _ _ _ _ _ h => h) hK (fun w1 hS => op_load hT rfl rfl rfl rfl (cellOf hS.below hcZ)) ?_
            refine ga_take 22 rfl rfl rfl rfl (by kernel_rfl) (fun _ _ _ _ _ h => h) hK (fun w1 hS => op_imag rfl rfl) ?_
            refine ga_take 23 rfl rfl rfl rfl (by kernel_rfl) (fun _ _ _ _ _ h => h) hK (fun w1 hS => op_f2i hT rfl rfl rfl rfl hzJ.1 (by omega)) ?_
            refine ga_take 24 rfl rfl rfl rfl (by kernel_rfl) (fun _ _ _ _ _ h => h) hK (fun w1 hS => op_pure hT rfl) ?_
            refine ga_take 25 rfl rfl rfl rfl (by kernel_rfl) (fun _ _ _ _ _ h => h) hK (fun w1 hS => op_pure hT rfl) ?_
            refine ga_done (by kernel_rfl) ?_
            refine hK36 _ _ ?_
            clear hK36; try clear K36
            refine gc_seq fun K37 hK37 => ?_
            refine gc_anyS hS (by kernel_rfl) rfl fun nq29 hK => ?_
            have hS := hS.dr nq29
            refine ga_take 0 rfl rfl rfl rfl (by kernel_rfl) (fun _ _ _ _ _ h => h) hK (fun w1 hS => op_pure hT rfl) ?_
            refine ga_take 1 rfl rfl rfl rfl (by kernel_rfl) (fun _ _ _ _ _ h => h) hK (fun w1 hS => op_pure hT rfl) ?_
            refine ga_take 2 rfl rfl rfl rfl (by kernel_rfl) (fun _ _ _ _ _ h => h) hK (fun w1 hS => op_pure hT rfl) ?_
            refine ga_take 3 rfl rfl rfl rfl (by kernel_rfl) (fun _ _ _ _ _ h => h) hK (fun w1 hS => op_pure hT rfl) ?_
            refine ga_take 4 rfl rfl rfl rfl (by kernel_rfl) (fun _ _ _ _ _ h => h) hK (fun w1 hS => (by first | exact op_fit hT rfl (by omega) | exact op_pure hT rfl)) ?_
            refine ga_take 5 rfl rfl rfl rfl (by kernel_rfl) (fun _ _ _ _ _ h => h) hK (fun w1 hS => op_indexAddr hT rfl rfl el3.cellsOf.1 el3.cellsOf.2 rfl rfl (by omega) (by omega) hAV) ?_
            refine ga_spell 156 (v := .pointer (some (adV.add (2 * j * 1)))) rfl (by rw [e7]) ?_
            refine ga_take 6 rfl rfl rfl rfl (by kernel_rfl) (fun _ _ _ _ _ h => h) hK (fun w1 hS => op_load hT rfl rfl rfl rfl (cellOf hS.below hcV)) ?_
            refine ga_take 7 rfl rfl rfl rfl (by kernel_rfl) (fun _ _ _ _ _ h => h) hK (fun w1 hS => (by first | exact op_fit hT rfl (by omega) | exact op_pure hT rfl)) ?_
            refine ga_take 8 rfl rfl rfl rfl (by kernel_rfl) (fun _ _ _ _ _ h => h) hK (fun w1 hS => (by first | exact op_fit hT rfl (by omega) | exact op_pure hT rfl)) ?_
            refine ga_take 9 rfl rfl rfl rfl (by kernel_rfl) (fun _ _ _ _ _ h => h) hK (fun w1 hS => op_pure hT rfl) ?_
            refine ga_take 10 rfl rfl rfl rfl (by kernel_rfl) (fun _ _ _ _ _ h => h) hK (fun w1 hS => op_pure hT rfl) ?_
            refine ga_take 11 rfl rfl rfl rfl (by kernel_rfl) (fun _ _ _ _ _ h => h) hK (fun w1 hS => op_pure hT rfl) ?_
            refine ga_take 12 rfl rfl rfl rfl (by kernel_rfl) (fun _ _ _ _ _ h => h) hK (fun w1 hS => (by first | exact op_fit hT rfl (by omega) | exact op_pure hT rfl)) ?_
            refine ga_take 13 rfl rfl rfl rfl (by kernel_rfl) (fun _ _ _ _ _ h => h) hK (fun w1 hS => (by first | exact op_fit hT rfl (by omega) | exact op_pure hT rfl)) ?_
            refine ga_take 14 rfl rfl rfl rfl (by kernel_rfl) (fun _ _ _ _ _ h => h) hK (fun w1 hS => op_indexAddr hT rfl rfl el3.cellsOf.1 el3.cellsOf.2 rfl rfl (by omega) (by omega) hAV2) ?_
            refine ga_spell 165 (v := .pointer (some (adV2.add ((2 * j + 1) * 1)))) rfl (by rw [e8]) ?_
            refine ga_take 15 rfl rfl rfl rfl (by kernel_rfl) (fun _ _ _ _ _ h => h) hK (fun w1 hS => op_load hT rfl rfl rfl rfl (cellOf hS.below hcV2)) ?_
            refine ga_take 16 rfl rfl rfl rfl (by kernel_rfl) (fun _ _ _ _ _ h => h) hK (fun w1 hS => (by first | exact op_fit hT rfl (by omega) | exact op_pure hT rfl)) ?_
            refine ga_take 17 rfl rfl rfl rfl (by kernel_rfl) (fun _ _ _ _ _ h => h) hK (fun w1 hS => (by first | exact op_fit hT rfl (by omega) | exact op_pure hT rfl)) ?_
            refine ga_spell 168 (v := .int .i64 (iF (lzb.getD i (0, 0)).1 + sumN (fun j => iF (lz.getD (i * G + j) (0, 0)).1 * v.getD (2 * j) 0 - iF (lz.getD (i * G + j) (0, 0)).2 * v.getD (2 * j + 1) 0) (j + 1))) rfl (by show Value.int .i64 _ = Value.int .i64 (_ + (_ + (_ - _))); congr 1; omega) ?_
            refine ga_take 18 rfl rfl rfl rfl (by kernel_rfl) (fun _ _ _ _ _ h => h) hK (fun w1 hS => op_pure hT rfl) ?_
            refine ga_done (by kernel_rfl) ?_
            refine hK37 _ _ ?_
            clear hK37; try clear K37
            refine gc_anyS hS (by kernel_rfl) rfl fun nq30 hK => ?_
            have hS := hS.dr nq30
            refine ga_take 0 rfl rfl rfl rfl (by kernel_rfl) (fun _ _ _ _ _ h => h) hK (fun w1 hS => op_pure hT rfl) ?_
            refine ga_take 1 rfl rfl rfl rfl (by kernel_rfl) (fun _ _ _ _ _ h => h) hK (fun w1 hS => op_pure hT rfl) ?_
            refine ga_take 2 rfl rfl rfl rfl (by kernel_rfl) (fun _ _ _ _ _ h => h) hK (fun w1 hS => op_pure hT rfl) ?_
            refine ga_take 3 rfl rfl rfl rfl (by kernel_rfl) (fun _ _ _ _ _ h => h) hK (fun w1 hS => op_pure hT rfl) ?_
            refine ga_take 4 rfl rfl rfl rfl (by kernel_rfl) (fun _ _ _ _ _ h => h) hK (fun w1 hS => (by first | exact op_fit hT rfl (by omega) | exact op_pure hT rfl)) ?_
            refine ga_take 5 rfl rfl rfl rfl (by kernel_rfl) (fun _ _ _ _ _ h => h) hK (fun w1 hS => (by first | exact op_fit hT rfl (by omega) | exact op_pure hT rfl)) ?_
            refine ga_take 6 rfl rfl rfl rfl (by kernel_rfl) (fun _ _ _ _ _ h => h) hK (fun w1 hS => op_indexAddr hT rfl rfl el3.cellsOf.1 el3.cellsOf.2 rfl rfl (by omega) (by omega) hAV2) ?_
            refine ga_spell 175 (v := .pointer (some (adV2.add ((2 * j + 1) * 1)))) rfl (by rw [e8]) ?_
            refine ga_take 7 rfl rfl rfl rfl (by kernel_rfl) (fun _ _ _ _ _ h => h) hK (fun w1 hS => op_load hT rfl rfl rfl rfl (cellOf hS.below hcV2)) ?_
            refine ga_take 8 rfl rfl rfl rfl (by kernel_rfl) (fun _ _ _ _ _ h => h) hK (fun w1 hS => (by first | exact op_fit hT rfl (by omega) | exact op_pure hT rfl)) ?_
            refine ga_take 9 rfl rfl rfl rfl (by kernel_rfl) (fun _ _ _ _ _ h => h) hK (fun w1 hS => (by first | exact op_fit hT rfl (by omega) | exact op_pure hT rfl)) ?_
            refine ga_take 10 rfl rfl rfl rfl (by kernel_rfl) (fun _ _ _ _ _ h => h) hK (fun w1 hS => op_pure hT rfl) ?_
            refine ga_take 11 rfl rfl rfl rfl (by kernel_rfl) (fun _ _ _ _ _ h => h) hK (fun w1 hS => op_pure hT rfl) ?_
            refine ga_take 12 rfl rfl rfl rfl (by kernel_rfl) (fun _ _ _ _ _ h => h) hK (fun w1 hS => op_pure hT rfl) ?_
            refine ga_take 13 rfl rfl rfl rfl (by kernel_rfl) (fun _ _ _ _ _ h => h) hK (fun w1 hS => (by first | exact op_fit hT rfl (by omega) | exact op_pure hT rfl)) ?_
            refine ga_take 14 rfl rfl rfl rfl (by kernel_rfl) (fun _ _ _ _ _ h => h) hK (fun w1 hS => op_indexAddr hT rfl rfl el3.cellsOf.1 el3.cellsOf.2 rfl rfl (by omega) (by omega) hAV) ?_
            refine ga_spell 183 (v := .pointer (some (adV.add (2 * j * 1)))) rfl (by rw [e7]) ?_
            refine ga_take 15 rfl rfl rfl rfl (by kernel_rfl) (fun _ _ _ _ _ h => h) hK (fun w1 hS => op_load hT rfl rfl rfl rfl (cellOf hS.below hcV)) ?_
            refine ga_take 16 rfl rfl rfl rfl (by kernel_rfl) (fun _ _ _ _ _ h => h) hK (fun w1 hS => (by first | exact op_fit hT rfl (by omega) | exact op_pure hT rfl)) ?_
            refine ga_take 17 rfl rfl rfl rfl (by kernel_rfl) (fun _ _ _ _ _ h => h) hK (fun w1 hS => (by first | exact op_fit hT rfl (by omega) | exact op_pure hT rfl)) ?_
            refine ga_spell 186 (v := .int .i64 (iF (lzb.getD i (0, 0)).2 + sumN (fun j => iF (lz.getD (i * G + j) (0, 0)).1 * v.getD (2 * j + 1) 0 + iF (lz.getD (i * G + j) (0, 0)).2 * v.getD (2 * j) 0) (j + 1))) rfl (by show Value.int .i64 _ = Value.int .i64 (_ + (_ + (_ + _))); congr 1; omega) ?_
            refine ga_take 18 rfl rfl rfl rfl (by kernel_rfl) (fun _ _ _ _ _ h => h) hK (fun w1 hS => op_pure hT rfl) ?_
            refine ga_done (by kernel_rfl) ?_
            refine hK35 _ _ ?_
            clear hK35; try clear K35
            refine gc_region ?_
            refine gl_op rfl rfl rfl (op_pure hT rfl) ?_
            first | refine gl_fit hT rfl rfl rfl rfl (by omega) ?_ | refine gl_op rfl rfl rfl (op_pure hT rfl) ?_
            refine gl_op rfl rfl rfl (op_pure hT rfl) ?_
            refine gl_nil ?_
            intro a ha
            exact ⟨j + 1, ha.sub ⟨rfl, rfl, rfl, rfl, rfl, rfl, rfl, rfl, rfl, trivial⟩, by omega, by omega, hS⟩
          · try simp only [decide_eq_true_eq, decide_eq_false_iff_not, Bool.not_eq_true', Bool.not_eq_false', Int.not_lt, Int.not_le, Nat.not_lt, Nat.not_le, Bool.true_eq, Bool.false_eq, reduceCtorEq] at c124
            have hjG : j = G := by omega
            subst hjG
            refine gc_exit ?_
            refine hK31 _ _ ?_
            clear hK31; try clear K31
            refine gc_region ?_
            refine gl_op rfl rfl rfl (op_pure hT rfl) ?_
            refine gl_op rfl rfl rfl (op_pure hT rfl) ?_
            refine gl_op rfl rfl rfl (op_pure hT rfl) ?_
            refine gl_lit hT hS el3 rfl rfl rfl rfl rfl rfl rfl rfl rfl fun g190 w190 hS => ?_
            refine gl_append 2 hT hS el3 (hS.rd (i := 3) rfl) (rfl) rfl rfl rfl rfl rfl rfl rfl rfl (by first | omega | (simp; omega)) (by first | omega | (simp; omega)) fun A191 c191 w191 hS => ?_
            have hS := hS.erase 3
            refine gl_op rfl rfl rfl (op_pure hT rfl) ?_
            refine gl_nil ?_
            refine hK29 _ _ ?_
            clear hK29; try clear K29
            refine gc_region ?_
            refine gl_op rfl rfl rfl (op_pure hT rfl) ?_
            first | refine gl_fit hT rfl rfl rfl rfl (by omega) ?_ | refine gl_op rfl rfl rfl (op_pure hT rfl) ?_
            refine gl_op rfl rfl rfl (op_pure hT rfl) ?_
            refine gl_nil ?_
            intro a ha
            refine ⟨i + 1, A191, c191, ha.sub ⟨rfl, rfl, rfl, rfl, rfl, rfl, trivial⟩, by omega, by omega, ?_⟩
            rw [show 2 * (i + 1) = 2 * i + 1 + 1 by omega, wantL_succ, wantL_succ, List.map_append, List.map_append, hwe, hwo, List.append_assoc]
            exact hS
        · try simp only [decide_eq_true_eq, decide_eq_false_iff_not, Bool.not_eq_true', Bool.not_eq_false', Int.not_lt, Int.not_le, Nat.not_lt, Nat.not_le, Bool.true_eq, Bool.false_eq, reduceCtorEq] at c104
          have hiO : i = O := by omega
          subst hiO
          subst hOM
          refine gc_exit ?_
          refine hK4 _ _ ?_
          clear hK4; try clear K4
          refine gc_seq fun K38 hK38 => ?_
          refine gc_region ?_
          refine gl_op rfl rfl rfl (op_pure hT rfl) ?_
          refine gl_op rfl rfl rfl (op_pure hT rfl) ?_
          refine gl_nil ?_
          refine hK38 _ _ ?_
          clear hK38; try clear K38
          refine gc_ret ?_
          try simp only [x_then_ret, x_block_ret]
          refine gk_ret1 rfl rfl ?_
          exact ⟨Ao, 2 * i, co, _, rfl, fun _ => ⟨rfl, rdE_of (hS.rowRd (i := 2) rfl fun b hb => ⟨_, by simp, hb⟩) (wantL_len ..)⟩, hS.keepAll⟩
      · try simp only [decide_eq_true_eq, decide_eq_false_iff_not, Bool.not_eq_true', Bool.not_eq_false', Int.not_lt, Int.not_le, Nat.not_lt, Nat.not_le, Bool.true_eq, Bool.false_eq, reduceCtorEq] at c99
        refine gc_skip ?_
        refine hK4 _ _ ?_
        clear hK4; try clear K4
        refine gc_seq fun K39 hK39 => ?_
        refine gc_region ?_
        refine gl_op rfl rfl rfl (op_pure hT rfl) ?_
        refine gl_op rfl rfl rfl (op_pure hT rfl) ?_
        refine gl_nil ?_
        refine hK39 _ _ ?_
        clear hK39; try clear K39
        refine gc_ret ?_
        try simp only [x_then_ret, x_block_ret]
        refine gk_ret1 rfl rfl ?_
        exact ⟨none, 0, 0, _, rfl, fun h => absurd h (by omega), (hS.sub (List.nil_sublist _)).keep0⟩
end Go.Proofs.Ytkfhablonnjgeaa
