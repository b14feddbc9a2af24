/- Contracts of package rows, third part: a row. No condition. -/
import Derived.Test.YtkfhablonnjgeaaRo2
namespace Go.Proofs.Ytkfhablonnjgeaa
open Go.RowKit
set_option linter.unusedVariables false
set_option linter.unusedSimpArgs false
theorem St.perm {B : Nat} {w0 w : World} {L L' : List It} (h : St B w0 w L) (hp : L.Perm L') : St B w0 w L' :=
  ⟨h.1, fun it hi => h.2.1 it (hp.mem_iff.2 hi), hp.pairwise h.2.2 fun {x y} hxy b hb hb2 => hxy b hb2 hb⟩
/-- A layer's lists, as they lie in memory. -/
structure LyD (w : World) (ok : Nat → Prop) (L : Ly) (lw lb : List Nat) (lz lzb : List (Nat × Nat)) : Prop where
  rW : RdE w ok fV L.W.1 lw
  nW : L.W.2.1 = lw.length
  cW : lw.length ≤ L.W.2.2
  rB : RdE w ok fV L.B.1 lb
  nB : L.B.2.1 = lb.length
  cB : lb.length ≤ L.B.2.2
  rZ : RdE w ok cV L.Z.1 lz
  nZ : L.Z.2.1 = lz.length
  cZ : lz.length ≤ L.Z.2.2
  rZB : RdE w ok cV L.ZB.1 lzb
  nZB : L.ZB.2.1 = lzb.length
  cZB : lzb.length ≤ L.ZB.2.2
  fz : ∀ x ∈ lz, x.2 < 18446744073709551616
  lW : lw.length ≤ 17592186044416
  lB : lb.length ≤ 17592186044416
  lZ : lz.length ≤ 17592186044416
  lZB : lzb.length ≤ 17592186044416
theorem LyD.old {w w' : World} {ok : Nat → Prop} {L : Ly} {lw lb : List Nat} {lz lzb : List (Nat × Nat)} {L0 : List It} (h : LyD w ok L lw lb lz lzb) (hS : St w.heap.size w w' L0) : LyD w' ok L lw lb lz lzb :=
  ⟨h.rW.old hS, h.nW, h.cW, h.rB.old hS, h.nB, h.cB, h.rZ.old hS, h.nZ, h.cZ, h.rZB.old hS, h.nZB, h.cZB, h.fz, h.lW, h.lB, h.lZ, h.lZB⟩
theorem whole_calls (L : Ly) (s : Sh) (w : World) (hL : L.ok) (hs : s.ok) (hl : L.W.2.1 ≤ 17592186044416 ∧ L.B.2.1 ≤ 17592186044416 ∧ L.Z.2.1 ≤ 17592186044416 ∧ L.ZB.2.1 ≤ 17592186044416) :
    Calls Try.prog 25 ⟨[.agg ⟨lyC L⟩, .agg ⟨shC s⟩]⟩ w fun e w' => e = .returned (.bool (wholeV L s L.W.2.1 L.B.2.1 L.Z.2.1 L.ZB.2.1)) ∧ Below w.heap.size w w' := by
  refine gc_enter (N := 45) Try.func25 rfl rfl rfl [(0, _), (1, _)] rfl ?_
  have hS := St.start w
  refine gc_seq fun K1 hK1 => ?_
  refine gc_region ?_
  refine gl_box hS rfl rfl rfl rfl rfl fun g2 w2 hS => ?_
  refine gl_box hS rfl rfl rfl rfl rfl fun g3 w3 hS => ?_
  refine gl_op rfl rfl rfl (op_pure hT rfl) ?_
  refine gl_nil ?_
  refine hK1 _ _ ?_
  clear hK1; try clear K1
  refine gc_seq fun K2 hK2 => ?_
  refine gc_region ?_
  refine gl_op rfl rfl rfl (op_loadG 0 Try.underlying32 rfl el32 hS rfl rfl rfl rfl rfl) ?_
  refine gl_op rfl rfl rfl (op_loadG 1 Try.underlying27 rfl el27 hS rfl rfl rfl rfl rfl) ?_
  refine gl_callf rfl rfl rfl rfl Try.func43 rfl rfl rfl (mLists_calls L s _ hL hs) ?_
  rintro _ w13 ⟨rfl, hb13⟩
  refine ⟨_, rfl, ?_⟩
  have hS := hS.grown hb13
  refine gl_op rfl rfl rfl (op_pure hT rfl) ?_
  refine gl_op rfl rfl rfl (op_pure hT rfl) ?_
  refine gl_op rfl rfl rfl (op_pure hT rfl) ?_
  refine gl_op rfl rfl rfl (op_pure hT rfl) ?_
  refine gl_op rfl rfl rfl (op_pure hT rfl) ?_
  refine gl_op rfl rfl rfl (op_pure hT rfl) ?_
  refine gl_op rfl rfl rfl (op_pure hT rfl) ?_
  refine gl_op rfl rfl rfl (op_pure hT rfl) ?_
  refine gl_op rfl rfl rfl (op_pure hT rfl) ?_
  refine gl_op rfl rfl rfl (op_pure hT rfl) ?_
  refine gl_op rfl rfl rfl (op_pure hT rfl) ?_
  refine gl_nil ?_
  refine hK2 _ _ ?_
  clear hK2; try clear K2
  refine gc_seq fun K3 hK3 => ?_
  refine gc_region ?_
  refine gl_op rfl rfl rfl (op_fieldB 10 rfl Try.underlying32 rfl el29 rfl rfl) ?_
  refine gl_op rfl rfl rfl (op_loadB 0 hT hS rfl rfl rfl rfl rfl rfl) ?_
  refine gl_op rfl rfl rfl (op_pure hT rfl) ?_
  refine gl_op rfl rfl rfl (op_pure hT rfl) ?_
  refine gl_op rfl rfl rfl (op_pure hT rfl) ?_
  refine gl_op rfl rfl rfl (op_pure hT rfl) ?_
  refine gl_split (t := 24) rfl (fun c24 => ?_) (fun c24 => ?_)
  · try simp only [decide_eq_true_eq, decide_eq_false_iff_not, Bool.not_eq_true', Bool.not_eq_false', Int.not_lt, Int.not_le, Nat.not_lt, Nat.not_le, Bool.true_eq, Bool.false_eq, reduceCtorEq] at c24
    refine gl_un rfl rfl rfl rfl ?_
    refine gl_op rfl rfl rfl (op_fieldB 11 rfl Try.underlying32 rfl el29 rfl rfl) ?_
    refine gl_un rfl rfl rfl rfl ?_
    refine gl_op rfl rfl rfl (op_loadB 0 hT hS rfl rfl rfl rfl rfl rfl) ?_
    refine gl_un rfl rfl rfl rfl ?_
    refine gl_op rfl rfl rfl (op_pure hT rfl) ?_
    refine gl_un rfl rfl rfl rfl ?_
    refine gl_op rfl rfl rfl (op_pure hT rfl) ?_
    refine gl_un rfl rfl rfl rfl ?_
    refine gl_op rfl rfl rfl (op_pure hT rfl) ?_
    refine gl_op rfl rfl rfl (op_pure hT rfl) ?_
    refine gl_op rfl rfl rfl (op_pure hT rfl) ?_
    refine gl_split (t := 31) rfl (fun c31 => ?_) (fun c31 => ?_)
    · try simp only [decide_eq_true_eq, decide_eq_false_iff_not, Bool.not_eq_true', Bool.not_eq_false', Int.not_lt, Int.not_le, Nat.not_lt, Nat.not_le, Bool.true_eq, Bool.false_eq, reduceCtorEq] at c31
      refine gl_un rfl rfl rfl rfl ?_
      refine gl_op rfl rfl rfl (op_fieldB 12 rfl Try.underlying32 rfl el30 rfl rfl) ?_
      refine gl_un rfl rfl rfl rfl ?_
      refine gl_op rfl rfl rfl (op_loadB 0 hT hS rfl rfl rfl rfl rfl rfl) ?_
      refine gl_un rfl rfl rfl rfl ?_
      refine gl_op rfl rfl rfl (op_pure hT rfl) ?_
      refine gl_un rfl rfl rfl rfl ?_
      refine gl_op rfl rfl rfl (op_pure hT rfl) ?_
      refine gl_un rfl rfl rfl rfl ?_
      refine gl_op rfl rfl rfl (op_pure hT rfl) ?_
      refine gl_op rfl rfl rfl (op_pure hT rfl) ?_
      refine gl_op rfl rfl rfl (op_pure hT rfl) ?_
      refine gl_split (t := 38) rfl (fun c38 => ?_) (fun c38 => ?_)
      · try simp only [decide_eq_true_eq, decide_eq_false_iff_not, Bool.not_eq_true', Bool.not_eq_false', Int.not_lt, Int.not_le, Nat.not_lt, Nat.not_le, Bool.true_eq, Bool.false_eq, reduceCtorEq] at c38
        refine gl_un rfl rfl rfl rfl ?_
        refine gl_op rfl rfl rfl (op_fieldB 13 rfl Try.underlying32 rfl el30 rfl rfl) ?_
        refine gl_un rfl rfl rfl rfl ?_
        refine gl_op rfl rfl rfl (op_loadB 0 hT hS rfl rfl rfl rfl rfl rfl) ?_
        refine gl_un rfl rfl rfl rfl ?_
        refine gl_op rfl rfl rfl (op_pure hT rfl) ?_
        refine gl_un rfl rfl rfl rfl ?_
        refine gl_op rfl rfl rfl (op_pure hT rfl) ?_
        refine gl_un rfl rfl rfl rfl ?_
        refine gl_op rfl rfl rfl (op_pure hT rfl) ?_
        refine gl_op rfl rfl rfl (op_pure hT rfl) ?_
        refine gl_op rfl rfl rfl (op_pure hT rfl) ?_
        refine gl_nil ?_
        refine hK3 _ _ ?_
        clear hK3; try clear K3
        refine gc_ret ?_
        try simp only [x_then_ret, x_block_ret]
        refine gk_ret1 rfl rfl ?_
        refine ⟨?_, hS.below⟩
        unfold wholeV
        first
          | (rw [decide_eq_false (show ¬ ((L.W.2.1 : Nat) : Int) = (listsV L s).1.1 by omega)]; rfl)
          | (rw [decide_eq_true (show ((L.W.2.1 : Nat) : Int) = (listsV L s).1.1 by omega), decide_eq_false (show ¬ ((L.B.2.1 : Nat) : Int) = (listsV L s).1.2.1 by omega)]; rfl)
          | (rw [decide_eq_true (show ((L.W.2.1 : Nat) : Int) = (listsV L s).1.1 by omega), decide_eq_true (show ((L.B.2.1 : Nat) : Int) = (listsV L s).1.2.1 by omega), decide_eq_false (show ¬ ((L.Z.2.1 : Nat) : Int) = (listsV L s).1.2.2.1 by omega)]; rfl)
          | (rw [decide_eq_true (show ((L.W.2.1 : Nat) : Int) = (listsV L s).1.1 by omega), decide_eq_true (show ((L.B.2.1 : Nat) : Int) = (listsV L s).1.2.1 by omega), decide_eq_true (show ((L.Z.2.1 : Nat) : Int) = (listsV L s).1.2.2.1 by omega)]; rfl)
      · try simp only [decide_eq_true_eq, decide_eq_false_iff_not, Bool.not_eq_true', Bool.not_eq_false', Int.not_lt, Int.not_le, Nat.not_lt, Nat.not_le, Bool.true_eq, Bool.false_eq, reduceCtorEq] at c38
        refine gl_pass rfl rfl rfl rfl rfl rfl ?_
        refine gl_pass rfl rfl rfl rfl rfl rfl ?_
        refine gl_pass rfl rfl rfl rfl rfl rfl ?_
        refine gl_pass rfl rfl rfl rfl rfl rfl ?_
        refine gl_pass rfl rfl rfl rfl rfl rfl ?_
        refine gl_op rfl rfl rfl (op_pure hT rfl) ?_
        refine gl_op rfl rfl rfl (op_pure hT rfl) ?_
        refine gl_nil ?_
        refine hK3 _ _ ?_
        clear hK3; try clear K3
        refine gc_ret ?_
        try simp only [x_then_ret, x_block_ret]
        refine gk_ret1 rfl rfl ?_
        refine ⟨?_, hS.below⟩
        unfold wholeV
        first
          | (rw [decide_eq_false (show ¬ ((L.W.2.1 : Nat) : Int) = (listsV L s).1.1 by omega)]; rfl)
          | (rw [decide_eq_true (show ((L.W.2.1 : Nat) : Int) = (listsV L s).1.1 by omega), decide_eq_false (show ¬ ((L.B.2.1 : Nat) : Int) = (listsV L s).1.2.1 by omega)]; rfl)
          | (rw [decide_eq_true (show ((L.W.2.1 : Nat) : Int) = (listsV L s).1.1 by omega), decide_eq_true (show ((L.B.2.1 : Nat) : Int) = (listsV L s).1.2.1 by omega), decide_eq_false (show ¬ ((L.Z.2.1 : Nat) : Int) = (listsV L s).1.2.2.1 by omega)]; rfl)
          | (rw [decide_eq_true (show ((L.W.2.1 : Nat) : Int) = (listsV L s).1.1 by omega), decide_eq_true (show ((L.B.2.1 : Nat) : Int) = (listsV L s).1.2.1 by omega), decide_eq_true (show ((L.Z.2.1 : Nat) : Int) = (listsV L s).1.2.2.1 by omega)]; rfl)
    · try simp only [decide_eq_true_eq, decide_eq_false_iff_not, Bool.not_eq_true', Bool.not_eq_false', Int.not_lt, Int.not_le, Nat.not_lt, Nat.not_le, Bool.true_eq, Bool.false_eq, reduceCtorEq] at c31
      refine gl_pass rfl rfl rfl rfl rfl rfl ?_
      refine gl_pass rfl rfl rfl rfl rfl rfl ?_
      refine gl_pass rfl rfl rfl rfl rfl rfl ?_
      refine gl_pass rfl rfl rfl rfl rfl rfl ?_
      refine gl_pass rfl rfl rfl rfl rfl rfl ?_
      refine gl_op rfl rfl rfl (op_pure hT rfl) ?_
      refine gl_op rfl rfl rfl (op_pure hT rfl) ?_
      refine gl_pass rfl rfl rfl rfl rfl rfl ?_
      refine gl_pass rfl rfl rfl rfl rfl rfl ?_
      refine gl_pass rfl rfl rfl rfl rfl rfl ?_
      refine gl_pass rfl rfl rfl rfl rfl rfl ?_
      refine gl_pass rfl rfl rfl rfl rfl rfl ?_
      refine gl_op rfl rfl rfl (op_pure hT rfl) ?_
      refine gl_op rfl rfl rfl (op_pure hT rfl) ?_
      refine gl_nil ?_
      refine hK3 _ _ ?_
      clear hK3; try clear K3
      refine gc_ret ?_
      try simp only [x_then_ret, x_block_ret]
      refine gk_ret1 rfl rfl ?_
      refine ⟨?_, hS.below⟩
      unfold wholeV
      first
        | (rw [decide_eq_false (show ¬ ((L.W.2.1 : Nat) : Int) = (listsV L s).1.1 by omega)]; rfl)
        | (rw [decide_eq_true (show ((L.W.2.1 : Nat) : Int) = (listsV L s).1.1 by omega), decide_eq_false (show ¬ ((L.B.2.1 : Nat) : Int) = (listsV L s).1.2.1 by omega)]; rfl)
        | (rw [decide_eq_true (show ((L.W.2.1 : Nat) : Int) = (listsV L s).1.1 by omega), decide_eq_true (show ((L.B.2.1 : Nat) : Int) = (listsV L s).1.2.1 by omega), decide_eq_false (show ¬ ((L.Z.2.1 : Nat) : Int) = (listsV L s).1.2.2.1 by omega)]; rfl)
        | (rw [decide_eq_true (show ((L.W.2.1 : Nat) : Int) = (listsV L s).1.1 by omega), decide_eq_true (show ((L.B.2.1 : Nat) : Int) = (listsV L s).1.2.1 by omega), decide_eq_true (show ((L.Z.2.1 : Nat) : Int) = (listsV L s).1.2.2.1 by omega)]; rfl)
  · try simp only [decide_eq_true_eq, decide_eq_false_iff_not, Bool.not_eq_true', Bool.not_eq_false', Int.not_lt, Int.not_le, Nat.not_lt, Nat.not_le, Bool.true_eq, Bool.false_eq, reduceCtorEq] at c24
    refine gl_pass rfl rfl rfl rfl rfl rfl ?_
    refine gl_pass rfl rfl rfl rfl rfl rfl ?_
    refine gl_pass rfl rfl rfl rfl rfl rfl ?_
    refine gl_pass rfl rfl rfl rfl rfl rfl ?_
    refine gl_pass rfl rfl rfl rfl rfl rfl ?_
    refine gl_op rfl rfl rfl (op_pure hT rfl) ?_
    refine gl_op rfl rfl rfl (op_pure hT rfl) ?_
    refine gl_pass rfl rfl rfl rfl rfl rfl ?_
    refine gl_pass rfl rfl rfl rfl rfl rfl ?_
    refine gl_pass rfl rfl rfl rfl rfl rfl ?_
    refine gl_pass rfl rfl rfl rfl rfl rfl ?_
    refine gl_pass rfl rfl rfl rfl rfl rfl ?_
    refine gl_op rfl rfl rfl (op_pure hT rfl) ?_
    refine gl_op rfl rfl rfl (op_pure hT rfl) ?_
    refine gl_pass rfl rfl rfl rfl rfl rfl ?_
    refine gl_pass rfl rfl rfl rfl rfl rfl ?_
    refine gl_pass rfl rfl rfl rfl rfl rfl ?_
    refine gl_pass rfl rfl rfl rfl rfl rfl ?_
    refine gl_pass rfl rfl rfl rfl rfl rfl ?_
    refine gl_op rfl rfl rfl (op_pure hT rfl) ?_
    refine gl_op rfl rfl rfl (op_pure hT rfl) ?_
    refine gl_nil ?_
    refine hK3 _ _ ?_
    clear hK3; try clear K3
    refine gc_ret ?_
    try simp only [x_then_ret, x_block_ret]
    refine gk_ret1 rfl rfl ?_
    refine ⟨?_, hS.below⟩
    unfold wholeV
    first
      | (rw [decide_eq_false (show ¬ ((L.W.2.1 : Nat) : Int) = (listsV L s).1.1 by omega)]; rfl)
      | (rw [decide_eq_true (show ((L.W.2.1 : Nat) : Int) = (listsV L s).1.1 by omega), decide_eq_false (show ¬ ((L.B.2.1 : Nat) : Int) = (listsV L s).1.2.1 by omega)]; rfl)
      | (rw [decide_eq_true (show ((L.W.2.1 : Nat) : Int) = (listsV L s).1.1 by omega), decide_eq_true (show ((L.B.2.1 : Nat) : Int) = (listsV L s).1.2.1 by omega), decide_eq_false (show ¬ ((L.Z.2.1 : Nat) : Int) = (listsV L s).1.2.2.1 by omega)]; rfl)
      | (rw [decide_eq_true (show ((L.W.2.1 : Nat) : Int) = (listsV L s).1.1 by omega), decide_eq_true (show ((L.B.2.1 : Nat) : Int) = (listsV L s).1.2.1 by omega), decide_eq_true (show ((L.Z.2.1 : Nat) : Int) = (listsV L s).1.2.2.1 by omega)]; rfl)
theorem count_calls (L : Ly) (s : Sh) (w : World) (hL : L.ok) (hs : s.ok) :
    Calls Try.prog 14 ⟨[.agg ⟨lyC L⟩, .agg ⟨shC s⟩]⟩ w fun e w' => e = .returned (.tuple #[.int .i64 (if (outV L s).2 ≠ 0 then 0 else (outS L s).c * (outS L s).h * (outS L s).w), .int .i64 (outV L s).2]) ∧ Below w.heap.size w w' := by
  refine gc_enter (N := 25) Try.func14 rfl rfl rfl [(0, _), (1, _)] rfl ?_
  have hS := St.start w
  refine gc_seq fun K1 hK1 => ?_
  refine gc_region ?_
  refine gl_box hS rfl rfl rfl rfl rfl fun g2 w2 hS => ?_
  refine gl_box hS rfl rfl rfl rfl rfl fun g3 w3 hS => ?_
  refine gl_op rfl rfl rfl (op_pure hT rfl) ?_
  refine gl_op rfl rfl rfl (op_pure hT rfl) ?_
  refine gl_nil ?_
  refine hK1 _ _ ?_
  clear hK1; try clear K1
  refine gc_seq fun K2 hK2 => ?_
  refine gc_region ?_
  refine gl_op rfl rfl rfl (op_loadG 0 Try.underlying32 rfl el32 hS rfl rfl rfl rfl rfl) ?_
  refine gl_op rfl rfl rfl (op_loadG 1 Try.underlying27 rfl el27 hS rfl rfl rfl rfl rfl) ?_
  refine gl_callf rfl rfl rfl rfl Try.func24 rfl rfl rfl (mOut_calls L s _ hL hs) ?_
  rintro _ w11 ⟨rfl, hb11⟩
  refine ⟨_, rfl, ?_⟩
  have hS := hS.grown hb11
  refine gl_op rfl rfl rfl (op_pure hT rfl) ?_
  refine gl_op rfl rfl rfl (op_pure hT rfl) ?_
  refine gl_op rfl rfl rfl (op_pure hT rfl) ?_
  refine gl_alloc el27 hS rfl rfl rfl rfl fun g6 w6 hS => ?_
  refine gl_storeM 2 hS el27 rfl rfl rfl rfl rfl rfl rfl rfl rfl fun wrows_go_19 hS => ?_
  refine gl_op rfl rfl rfl (op_pure hT rfl) ?_
  refine gl_nil ?_
  refine hK2 _ _ ?_
  clear hK2; try clear K2
  refine gc_seq fun K3 hK3 => ?_
  refine gc_seq fun K4 hK4 => ?_
  refine gc_region ?_
  refine gl_op rfl rfl rfl (op_pure hT rfl) ?_
  refine gl_op rfl rfl rfl (op_pure hT rfl) ?_
  refine gl_nil ?_
  refine hK4 _ _ ?_
  clear hK4; try clear K4
  refine gc_cond rfl rfl (fun c15 => ?_) (fun c15 => ?_)
  · try simp only [decide_eq_true_eq, decide_eq_false_iff_not, Bool.not_eq_true', Bool.not_eq_false', Int.not_lt, Int.not_le, Nat.not_lt, Nat.not_le, Bool.true_eq, Bool.false_eq, reduceCtorEq] at c15
    refine gc_seq fun K5 hK5 => ?_
    refine gc_region ?_
    refine gl_op rfl rfl rfl (op_pure hT rfl) ?_
    refine gl_op rfl rfl rfl (op_pure hT rfl) ?_
    refine gl_op rfl rfl rfl (op_pure hT rfl) ?_
    refine gl_nil ?_
    refine hK5 _ _ ?_
    clear hK5; try clear K5
    refine gc_ret ?_
    try simp only [x_then_ret, x_block_ret]
    refine gk_ret2 rfl rfl rfl ?_
    exact ⟨by rw [if_pos c15]; rfl, hS.below⟩
  · try simp only [decide_eq_true_eq, decide_eq_false_iff_not, Bool.not_eq_true', Bool.not_eq_false', Int.not_lt, Int.not_le, Nat.not_lt, Nat.not_le, Bool.true_eq, Bool.false_eq, reduceCtorEq] at c15
    obtain ⟨_, _, _, _, hso, hoe⟩ := outV_ok c15
    have hgo := sz_good hso
    have hS : St w.heap.size w _ [.blk g2 32 (lyC L), .blk g3 27 (shC s), .blk g6 27 (shC (outV L s).1)] := hS
    rw [hoe] at hS
    have b1 := mul_bd (a := (outS L s).c) (b := (outS L s).h) (A := 256) (B := 256) (by omega) (by omega) (by omega) (by omega)
    refine gc_skip ?_
    refine hK3 _ _ ?_
    clear hK3; try clear K3
    refine gc_seq fun K6 hK6 => ?_
    refine gc_region ?_
    refine gl_op rfl rfl rfl (op_fieldB 0 rfl Try.underlying27 rfl el3 rfl rfl) ?_
    refine gl_op rfl rfl rfl (op_loadB 2 hT hS rfl rfl rfl rfl rfl rfl) ?_
    refine gl_op rfl rfl rfl (op_fieldB 1 rfl Try.underlying27 rfl el3 rfl rfl) ?_
    refine gl_op rfl rfl rfl (op_loadB 2 hT hS rfl rfl rfl rfl rfl rfl) ?_
    first | refine gl_fit hT rfl rfl rfl rfl (by omega) ?_ | refine gl_op rfl rfl rfl (op_pure hT rfl) ?_
    refine gl_op rfl rfl rfl (op_fieldB 2 rfl Try.underlying27 rfl el3 rfl rfl) ?_
    refine gl_op rfl rfl rfl (op_loadB 2 hT hS rfl rfl rfl rfl rfl rfl) ?_
    first | refine gl_fit hT rfl rfl rfl rfl (by omega) ?_ | refine gl_op rfl rfl rfl (op_pure hT rfl) ?_
    refine gl_op rfl rfl rfl (op_pure hT rfl) ?_
    refine gl_op rfl rfl rfl (op_pure hT rfl) ?_
    refine gl_nil ?_
    refine hK6 _ _ ?_
    clear hK6; try clear K6
    refine gc_ret ?_
    try simp only [x_then_ret, x_block_ret]
    refine gk_ret2 rfl rfl rfl ?_
    exact ⟨by rw [if_neg (by rw [c15]; simp), c15], hS.below⟩
end Go.Proofs.Ytkfhablonnjgeaa
