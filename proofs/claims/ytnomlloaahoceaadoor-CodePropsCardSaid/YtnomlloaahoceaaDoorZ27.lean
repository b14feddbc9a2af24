/- Contracts of functions that CodeProps reaches, and words to say them. No condition. -/
import Derived.Test.YtnomlloaahoceaaDoorZ24
/- Contracts of package code: the first example's network, written. No condition. -/
namespace Go.Proofs.YtnomlloaahoceaaDoor
open Go.RowKit
set_option linter.unusedVariables false
set_option linter.unusedSimpArgs false
def hdN : List UInt8 := [65, 77, 66, 78, 1]
def exA : Nat := 4602678819172646912
def exLy : Ly := ⟨8, 0, 0, 0, 0, 0, 0, 0, 0, exA, (none, 0, 0), (none, 0, 0), (none, 0, 0), (none, 0, 0)⟩
def exL : Lx := ⟨exLy, [], [], [], []⟩
def exW : List UInt8 := [65, 77, 66, 78, 1, 1, 1, 1, 1, 8, 0, 0, 0, 0, 0, 0, 0xe0, 0x3f, 0]
def ex0 : List UInt8 := [65, 77, 66, 78, 1, 1, 1, 1, 1]
def ex1 : List UInt8 := [65, 77, 66, 78, 1, 1, 1, 1, 1, 8, 0, 0, 0, 0, 0, 0, 0xe0, 0x3f]
theorem ex0_eq : hdN ++ encs [1, 1, 1, 1] = ex0 := by
  simp [encs, uintV, encU_small, hdN, ex0]
theorem ex1_eq : ex0 ++ encs [8] ++ encf [exA] = ex1 := by
  have h1 : encs [8] = [8] := by simp [encs, uintV, encU_small]
  have h2 : encf [exA] = [0, 0, 0, 0, 0, 0, 0xe0, 0x3f] := by
    unfold encf floatV
    simp [exA, numB, leB]
  rw [h1, h2]
  rfl
theorem ex2_eq : ex1 ++ encs [0] = exW := by
  have h1 : encs [0] = [0] := by simp [encs, uintV, encU_small]
  rw [h1]
  rfl
def exB : List UInt8 := exW ++ le4 (crcV exW)
theorem exL_ok {w : World} : LyM w All exL :=
  ⟨⟨by decide, by decide, by decide, by decide, by decide, by decide, by decide, by decide, by decide, by decide⟩, RdE.nil w none, rfl, RdE.nil w none, rfl, RdE.nil w none, rfl, RdE.nil w none, rfl,
    (fun u h => by cases h), (fun u h => by cases h), (fun u h => by cases h), (fun u h => by cases h), by decide, by decide, by decide, by decide⟩
theorem exShapes : shapesV ⟨1, 1, 1⟩ [exL] = (0, 0) := by decide
theorem exCheck (AL : Option Addr) (cL : Nat) (w : World) {ok : Nat → Prop} (hrd : RdS w ok lxC 14 AL [exL]) :
    Calls Tryd.prog 44 ⟨[.agg ⟨netC ⟨1, 1, 1⟩ AL 1 cL⟩]⟩ w fun e w' => e = .returned (.tuple #[.int .i64 0, .int .i64 0]) ∧ Below w.heap.size w w' := by
  have h := check_calls ⟨1, 1, 1⟩ AL cL [exL] w ⟨by decide, by decide, by decide⟩ (ok := All) ⟨hrd.1.weaken fun _ _ => trivial, hrd.2⟩ (fun x hx => by rw [List.mem_singleton.1 hx]; exact exL_ok)
  rw [exShapes] at h
  exact h
theorem fields8_calls {B : Nat} {w0 : World} (g : Nat) (bt : TypeId) (cs : List Value) (L : List It) (w : World) (hS0 : St B w0 w (.blk g bt (.int .i64 8 :: cs) :: L)) :
    Calls Tryd.prog 45 ⟨[.pointer (some ⟨g, 0, none⟩)]⟩ w fun en w' => en = .returned (.slice none 0 0) ∧ Eqv w w' := by
  refine gc_enter (N := 58) Tryd.func45 rfl rfl rfl [(0, _)] rfl ?_
  have hS := St.start w
  have hS := hS0
  refine gc_seq fun K1 hK1 => ?_
  refine gc_region ?_
  refine gl_op rfl rfl rfl (op_pure hT rfl) ?_
  refine gl_nil ?_
  refine hK1 _ _ ?_
  clear hK1; try clear K1
  refine gc_seq fun K2 hK2 => ?_
  refine gc_region ?_
  refine gl_op rfl rfl rfl (op_pure hT rfl) ?_
  refine gl_nil ?_
  refine hK2 _ _ ?_
  clear hK2; try clear K2
  refine gc_seq fun K3 hK3 => ?_
  refine gc_seq fun K4 hK4 => ?_
  refine gc_region ?_
  refine gl_op rfl rfl rfl (op_pure hT rfl) ?_
  refine gl_op rfl rfl rfl (op_pure hT rfl) ?_
  refine gl_op rfl rfl rfl (op_fieldB 0 rfl Tryd.underlying65 rfl el3 rfl rfl) ?_
  refine gl_op rfl rfl rfl (op_loadB 0 hT hS rfl rfl rfl rfl rfl rfl) ?_
  refine gl_nil ?_
  refine hK4 _ _ ?_
  clear hK4; try clear K4
  refine gc_block ?_
  refine gc_seq fun K5 hK5 => ?_
  refine gc_block ?_
  refine gc_seq fun K6 hK6 => ?_
  refine gc_block ?_
  refine gc_seq fun K7 hK7 => ?_
  refine gc_block ?_
  refine gc_seq fun K8 hK8 => ?_
  refine gc_block ?_
  refine gc_seq fun K9 hK9 => ?_
  refine gc_seq fun K10 hK10 => ?_
  refine gc_seq fun K11 hK11 => ?_
  refine gc_region ?_
  refine gl_op rfl rfl rfl (op_pure hT rfl) ?_
  refine gl_op rfl rfl rfl (op_pure hT rfl) ?_
  refine gl_nil ?_
  refine hK11 _ _ ?_
  clear hK11; try clear K11
  refine gc_cond_f rfl ?_
  refine gc_skip ?_
  refine hK10 _ _ ?_
  clear hK10; try clear K10
  refine gc_seq fun K12 hK12 => ?_
  refine gc_seq fun K13 hK13 => ?_
  refine gc_seq fun K14 hK14 => ?_
  refine gc_region ?_
  refine gl_op rfl rfl rfl (op_pure hT rfl) ?_
  refine gl_op rfl rfl rfl (op_pure hT rfl) ?_
  refine gl_nil ?_
  refine hK14 _ _ ?_
  clear hK14; try clear K14
  refine gc_cond_f rfl ?_
  refine gc_region ?_
  refine gl_op rfl rfl rfl (op_pure hT rfl) ?_
  refine gl_op rfl rfl rfl (op_pure hT rfl) ?_
  refine gl_nil ?_
  refine hK13 _ _ ?_
  clear hK13; try clear K13
  refine gc_cond_f rfl ?_
  refine gc_skip ?_
  refine hK12 _ _ ?_
  clear hK12; try clear K12
  refine gc_seq fun K15 hK15 => ?_
  refine gc_seq fun K16 hK16 => ?_
  refine gc_seq fun K17 hK17 => ?_
  refine gc_region ?_
  refine gl_op rfl rfl rfl (op_pure hT rfl) ?_
  refine gl_op rfl rfl rfl (op_pure hT rfl) ?_
  refine gl_nil ?_
  refine hK17 _ _ ?_
  clear hK17; try clear K17
  refine gc_cond_f rfl ?_
  refine gc_region ?_
  refine gl_op rfl rfl rfl (op_pure hT rfl) ?_
  refine gl_op rfl rfl rfl (op_pure hT rfl) ?_
  refine gl_nil ?_
  refine hK16 _ _ ?_
  clear hK16; try clear K16
  refine gc_cond_f rfl ?_
  refine gc_skip ?_
  refine hK15 _ _ ?_
  clear hK15; try clear K15
  refine gc_seq fun K18 hK18 => ?_
  refine gc_region ?_
  refine gl_op rfl rfl rfl (op_pure hT rfl) ?_
  refine gl_op rfl rfl rfl (op_pure hT rfl) ?_
  refine gl_nil ?_
  refine hK18 _ _ ?_
  clear hK18; try clear K18
  refine gc_cond_f rfl ?_
  refine gc_skip ?_
  refine hK9 _ _ ?_
  clear hK9; try clear K9
  refine gc_exit ?_
  refine hK3 _ _ ?_
  clear hK3; try clear K3
  refine gc_seq fun K19 hK19 => ?_
  refine gc_region ?_
  refine gl_op rfl rfl rfl (op_pure hT rfl) ?_
  refine gl_op rfl rfl rfl (op_pure hT rfl) ?_
  refine gl_nil ?_
  refine hK19 _ _ ?_
  clear hK19; try clear K19
  refine gc_ret ?_
  try simp only [x_then_ret, x_block_ret]
  refine gk_ret1 rfl rfl ?_
  exact ⟨rfl, Eqv.refl _⟩
theorem hasA_calls (n : Int) (w : World) : Calls Tryd.prog 46 ⟨[.int .i64 n]⟩ w fun e w' => e = .returned (.bool (decide (n = 4 ∨ n = 8))) ∧ Eqv w w' := by
  refine gc_enter (N := 9) Tryd.func46 rfl rfl rfl [(0, _)] rfl ?_
  refine gc_seq fun K1 hK1 => ?_
  refine gc_region ?_
  refine gl_op rfl rfl rfl (op_pure hT rfl) ?_
  refine gl_nil ?_
  refine hK1 _ _ ?_
  clear hK1; try clear K1
  refine gc_seq fun K2 hK2 => ?_
  refine gc_region ?_
  refine gl_op rfl rfl rfl (op_pure hT rfl) ?_
  refine gl_op rfl rfl rfl (op_pure hT rfl) ?_
  refine gl_op rfl rfl rfl (op_pure hT rfl) ?_
  refine gl_split (t := 5) rfl (fun c5 => ?_) (fun c5 => ?_)
  · try simp only [decide_eq_true_eq, decide_eq_false_iff_not, Bool.not_eq_true', Bool.not_eq_false', Int.not_lt, Int.not_le, Nat.not_lt, Nat.not_le, Bool.true_eq, Bool.false_eq, reduceCtorEq] at c5
    refine gl_pass rfl rfl rfl rfl rfl rfl ?_
    refine gl_pass rfl rfl rfl rfl rfl rfl ?_
    refine gl_op rfl rfl rfl (op_pure hT rfl) ?_
    refine gl_op rfl rfl rfl (op_pure hT rfl) ?_
    refine gl_nil ?_
    refine hK2 _ _ ?_
    clear hK2; try clear K2
    refine gc_ret ?_
    try simp only [x_then_ret, x_block_ret]
    refine gk_ret1 rfl rfl ?_
    exact ⟨by congr 2; first | (rw [decide_eq_true (by omega)]) | (exact decide_eq_decide.2 (by omega)), Eqv.refl _⟩
  · try simp only [decide_eq_true_eq, decide_eq_false_iff_not, Bool.not_eq_true', Bool.not_eq_false', Int.not_lt, Int.not_le, Nat.not_lt, Nat.not_le, Bool.true_eq, Bool.false_eq, reduceCtorEq] at c5
    refine gl_un rfl rfl rfl rfl ?_
    refine gl_op rfl rfl rfl (op_pure hT rfl) ?_
    refine gl_un rfl rfl rfl rfl ?_
    refine gl_op rfl rfl rfl (op_pure hT rfl) ?_
    refine gl_op rfl rfl rfl (op_pure hT rfl) ?_
    refine gl_op rfl rfl rfl (op_pure hT rfl) ?_
    refine gl_nil ?_
    refine hK2 _ _ ?_
    clear hK2; try clear K2
    refine gc_ret ?_
    try simp only [x_then_ret, x_block_ret]
    refine gk_ret1 rfl rfl ?_
    exact ⟨by congr 2; first | (rw [decide_eq_true (by omega)]) | (exact decide_eq_decide.2 (by omega)), Eqv.refl _⟩
set_option maxHeartbeats 4000000 in
set_option maxRecDepth 100000 in
theorem encodeNet1_calls (AL : Option Addr) (cL : Nat) (w : World) {ok : Nat → Prop} (hrd : RdS w ok lxC 14 AL [exL]) :
    Calls Tryd.prog 26 ⟨[.agg ⟨netC ⟨1, 1, 1⟩ AL 1 cL⟩]⟩ w fun e w' => ∃ A c, e = .returned (.tuple #[.slice A 23 c, .int .i64 0, .int .i64 0]) ∧ St w.heap.size w w' [.row A c 5 1 23 (exB.map uB)] := by
  refine gc_enter (N := 136) Tryd.func26 rfl rfl rfl [(0, _)] rfl ?_
  have hS := St.start w
  refine gc_seq fun K1 hK1 => ?_
  refine gc_region ?_
  refine gl_box hS rfl rfl rfl rfl rfl fun g1 w1 hS => ?_
  refine gl_op rfl rfl rfl (op_pure hT rfl) ?_
  refine gl_op rfl rfl rfl (op_pure hT rfl) ?_
  refine gl_op rfl rfl rfl (op_pure hT rfl) ?_
  refine gl_nil ?_
  refine hK1 _ _ ?_
  clear hK1; try clear K1
  refine gc_seq fun K2 hK2 => ?_
  refine gc_seq fun K3 hK3 => ?_
  refine gc_region ?_
  refine gl_op rfl rfl rfl (op_loadG 0 Tryd.underlying69 rfl el69 hS rfl rfl rfl rfl rfl) ?_
  refine gl_callf rfl rfl rfl rfl Tryd.func44 rfl rfl rfl (exCheck AL cL _ (hrd.old (by decide) hS)) ?_
  rintro _ w18 ⟨rfl, hb18⟩
  refine ⟨_, rfl, ?_⟩
  have hS := hS.grown hb18
  refine gl_op rfl rfl rfl (op_pure hT rfl) ?_
  refine gl_op rfl rfl rfl (op_pure hT rfl) ?_
  refine gl_op rfl rfl rfl (op_pure hT rfl) ?_
  refine gl_op rfl rfl rfl (op_pure hT rfl) ?_
  refine gl_op rfl rfl rfl (op_pure hT rfl) ?_
  refine gl_nil ?_
  refine hK3 _ _ ?_
  clear hK3; try clear K3
  refine gc_seq fun K4 hK4 => ?_
  refine gc_region ?_
  refine gl_op rfl rfl rfl (op_pure hT rfl) ?_
  refine gl_op rfl rfl rfl (op_pure hT rfl) ?_
  refine gl_nil ?_
  refine hK4 _ _ ?_
  clear hK4; try clear K4
  refine gc_cond rfl rfl (fun c22 => ?_) (fun c22 => ?_)
  · try simp only [decide_eq_true_eq, decide_eq_false_iff_not, Bool.not_eq_true', Bool.not_eq_false', Int.not_lt, Int.not_le, Nat.not_lt, Nat.not_le, Bool.true_eq, Bool.false_eq, reduceCtorEq] at c22
    exact absurd c22 (by decide)
  · try simp only [decide_eq_true_eq, decide_eq_false_iff_not, Bool.not_eq_true', Bool.not_eq_false', Int.not_lt, Int.not_le, Nat.not_lt, Nat.not_le, Bool.true_eq, Bool.false_eq, reduceCtorEq] at c22
    refine gc_skip ?_
    refine hK2 _ _ ?_
    clear hK2; try clear K2
    refine gc_cut (fun a w' => ∃ gc A c X, Fr 136 a [(1, .pointer (some ⟨g1, 0, none⟩)), (7, .pointer (some ⟨gc, 0, none⟩))] ∧ ObjRow X 5 A c hdN.length (hdN.map uB) ∧ St w.heap.size w w' [.blk gc 54 (cuC A (hdN).length c 0 []), X, .blk g1 69 (netC ⟨1, 1, 1⟩ AL 1 cL)]) ?_ ?_
    · skip
      refine gc_region ?_
      refine gl_lit hT hS el5 rfl rfl rfl rfl rfl rfl rfl rfl rfl fun g25 w25 hS => ?_
      refine gl_mark 1 hT hS rfl rfl rfl rfl rfl rfl rfl rfl fun w26 cur26 fz26 hcur26 hS => ?_
      refine gl_op rfl rfl rfl (op_buildG rfl plan54 rfl rfl) ?_
      refine gl_box hS rfl rfl rfl rfl rfl fun g28 w28 hS => ?_
      refine gl_op rfl rfl rfl (op_pure hT rfl) ?_
      refine gl_nil ?_
      intro a ha
      exact ⟨g28, _, _, _, ha.sub ⟨rfl, rfl, trivial⟩, ⟨_, _, _, rfl, rfl, rfl, rfl, hcur26⟩, hS.permute (p_cba _ _ _)⟩
    rintro a w1 ⟨gc, A, c, X, hF, hX, hS⟩
    refine gc_of hF ?_
    clear hF
    refine gc_seq fun K5 hK5 => ?_
    refine gc_region ?_
    refine gl_op rfl rfl rfl (op_pure hT rfl) ?_
    refine gl_op rfl rfl rfl (op_fieldB 0 rfl Tryd.underlying69 rfl el61 rfl rfl) ?_
    refine gl_op rfl rfl rfl (op_fieldB 0 rfl Tryd.underlying61 rfl el3 rfl rfl) ?_
    refine gl_op rfl rfl rfl (op_loadB 2 hT hS rfl rfl rfl rfl rfl rfl) ?_
    refine gl_op rfl rfl rfl (op_fieldB 0 rfl Tryd.underlying69 rfl el61 rfl rfl) ?_
    refine gl_op rfl rfl rfl (op_fieldB 1 rfl Tryd.underlying61 rfl el3 rfl rfl) ?_
    refine gl_op rfl rfl rfl (op_loadB 2 hT hS rfl rfl rfl rfl rfl rfl) ?_
    refine gl_op rfl rfl rfl (op_fieldB 0 rfl Tryd.underlying69 rfl el61 rfl rfl) ?_
    refine gl_op rfl rfl rfl (op_fieldB 2 rfl Tryd.underlying61 rfl el3 rfl rfl) ?_
    refine gl_op rfl rfl rfl (op_loadB 2 hT hS rfl rfl rfl rfl rfl rfl) ?_
    refine gl_op rfl rfl rfl (op_fieldB 3 rfl Tryd.underlying69 rfl el66 rfl rfl) ?_
    refine gl_op rfl rfl rfl (op_loadB 2 hT hS rfl rfl rfl rfl rfl rfl) ?_
    refine gl_op rfl rfl rfl (op_pure hT rfl) ?_
    refine gl_lit hT hS el3 rfl rfl rfl rfl rfl rfl rfl rfl rfl fun g42 w42 hS => ?_
    refine gl_callf rfl rfl rfl rfl Tryd.func20 rfl rfl rfl (putUint_calls gc _ A c (hdN) 0 [] _ _ _ 4 ([1, 1, 1, 1]) _ hS (.inr ⟨hX, _, _, rfl, by decide⟩) (fun hS => hS.rdE (i := 3) rfl) rfl (by decide) (by decide)) ?_
    rintro _ w43 ⟨rfl, A, c, hS⟩
    refine ⟨_, rfl, ?_⟩
    have hS := hS.erase 3
    rw [ex0_eq] at hS
    refine gl_nil ?_
    refine hK5 _ _ ?_
    clear hK5; try clear K5
    refine gc_seq fun K6 hK6 => ?_
    refine gc_seq fun K7 hK7 => ?_
    refine gc_region ?_
    refine gl_op rfl rfl rfl (op_fieldB 3 rfl Tryd.underlying69 rfl el66 rfl rfl) ?_
    refine gl_op rfl rfl rfl (op_loadB 2 hT hS rfl rfl rfl rfl rfl rfl) ?_
    refine gl_op rfl rfl rfl (op_pure hT rfl) ?_
    refine gl_op rfl rfl rfl (op_pure hT rfl) ?_
    refine gl_nil ?_
    refine hK7 _ _ ?_
    clear hK7; try clear K7
    refine gc_block ?_
    refine gc_loop (fun kk a' w' => ∃ (i : Nat) (m : List UInt8) (A : Option Addr) (c : Nat), Fr 136 a' [(1, .pointer (some ⟨g1, 0, none⟩)), (7, .pointer (some ⟨gc, 0, none⟩)), (46, .int .i64 1), (47, .int .i64 (i : Nat))] ∧ i ≤ 1 ∧ kk = 2 - i ∧ m = (if i = 0 then ex0 else ex1) ∧
      St w.heap.size w w' [.blk gc 54 (cuC A (m).length c 0 []), .row A c 5 1 (m).length ((m).map uB), .blk g1 69 (netC ⟨1, 1, 1⟩ AL 1 cL)]) 2 ?_ ?_ ?_
    · intro a' ha; exact ⟨0, ex0, A, c, ha.sub ⟨rfl, rfl, rfl, rfl, trivial⟩, by omega, by omega, rfl, hS⟩
    · rintro a' w' ⟨i, _, _, _, _, h1, h2, _⟩; omega
    clear hS
    rintro kk a' w1 ⟨i, m, A, c, hF, hi, hk, hm, hS⟩
    refine gc_of hF ?_
    clear hF
    refine gc_seq fun K8 hK8 => ?_
    refine gc_region ?_
    refine gl_op rfl rfl rfl (op_pure hT rfl) ?_
    refine gl_nil ?_
    refine hK8 _ _ ?_
    clear hK8; try clear K8
    refine gc_seq fun K9 hK9 => ?_
    refine gc_cond rfl rfl (fun c48 => ?_) (fun c48 => ?_)
    · try simp only [decide_eq_true_eq, decide_eq_false_iff_not, Bool.not_eq_true', Bool.not_eq_false', Int.not_lt, Int.not_le, Nat.not_lt, Nat.not_le, Bool.true_eq, Bool.false_eq, reduceCtorEq] at c48
      have hi0 : i = 0 := by omega
      subst hi0
      rw [if_pos rfl] at hm
      subst hm
      refine gc_skip ?_
      refine hK9 _ _ ?_
      clear hK9; try clear K9
      refine gc_seq fun K10 hK10 => ?_
      refine gc_block ?_
      refine gc_seq fun K11 hK11 => ?_
      refine gc_region ?_
      refine gl_op rfl rfl rfl (op_pure hT rfl) ?_
      refine gl_op rfl rfl rfl (op_pure hT rfl) ?_
      refine gl_nil ?_
      refine hK11 _ _ ?_
      clear hK11; try clear K11
      refine gc_seq fun K12 hK12 => ?_
      refine gc_region ?_
      refine gl_op rfl rfl rfl (op_fieldB 3 rfl Tryd.underlying69 rfl el66 rfl rfl) ?_
      refine gl_op rfl rfl rfl (op_loadB 2 hT hS rfl rfl rfl rfl rfl rfl) ?_
      refine gl_op rfl rfl rfl (op_pure hT rfl) ?_
      obtain ⟨ad, hA, hcx⟩ := (hrd.old (by decide) hS).at (i := 0) rfl
      refine gl_op rfl rfl rfl (op_indexAddr hT rfl rfl el65.cellsOf.1 el65.cellsOf.2 rfl rfl (by decide) (by decide) hA) ?_
      refine gl_op rfl rfl rfl (op_loadS Tryd.underlying65 rfl el65 rfl rfl hcx rfl) ?_
      refine gl_alloc el65 hS rfl rfl rfl rfl fun g9 w9 hS => ?_
      refine gl_storeM 3 hS el65 rfl rfl rfl rfl rfl rfl rfl rfl rfl fun wcode_go_144 hS => ?_
      refine gl_nil ?_
      refine hK12 _ _ ?_
      clear hK12; try clear K12
      refine gc_seq fun K13 hK13 => ?_
      refine gc_region ?_
      refine gl_op rfl rfl rfl (op_pure hT rfl) ?_
      refine gl_op rfl rfl rfl (op_fieldB 0 rfl Tryd.underlying65 rfl el3 rfl rfl) ?_
      refine gl_op rfl rfl rfl (op_loadB 3 hT hS rfl rfl rfl rfl rfl rfl) ?_
      refine gl_lit hT hS el3 rfl rfl rfl rfl rfl rfl rfl rfl rfl fun g58 w58 hS => ?_
      refine gl_callf rfl rfl rfl rfl Tryd.func20 rfl rfl rfl (putUint_calls gc _ A c (ex0) 0 [] _ _ _ 1 ([8]) _ hS (.inl rfl) (fun hS => hS.rdE (i := 4) rfl) rfl (by decide) (by decide)) ?_
      rintro _ w59 ⟨rfl, A, c, hS⟩
      refine ⟨_, rfl, ?_⟩
      have hS := hS.erase 4
      refine gl_nil ?_
      refine hK13 _ _ ?_
      clear hK13; try clear K13
      refine gc_seq fun K14 hK14 => ?_
      refine gc_seq fun K15 hK15 => ?_
      refine gc_region ?_
      refine gl_callf rfl rfl rfl rfl Tryd.func45 rfl rfl rfl (fields8_calls g9 _ _ _ _ (hS.permute (List.perm_append_comm (l₁ := [_, _, _]) (l₂ := [_])))) ?_
      rintro _ w60 ⟨rfl, hb60⟩
      refine ⟨_, rfl, ?_⟩
      have hS := hS.eqv hb60
      refine gl_op rfl rfl rfl (op_pure hT rfl) ?_
      refine gl_op rfl rfl rfl (op_pure hT rfl) ?_
      refine gl_nil ?_
      refine hK15 _ _ ?_
      clear hK15; try clear K15
      refine gc_block ?_
      have hS : St w.heap.size w _ [.blk gc 54 (cuC A (ex0 ++ encs [8]).length c 0 []), .row A c 5 1 (ex0 ++ encs [8]).length ((ex0 ++ encs [8]).map uB), .blk g1 69 (netC ⟨1, 1, 1⟩ AL 1 cL), .blk g9 65 (lyC exLy)] := hS
      refine gc_loop (fun kk a' w' => kk = 1 ∧ Fr 136 a' [(1, .pointer (some ⟨g1, 0, none⟩)), (7, .pointer (some ⟨gc, 0, none⟩)), (9, .pointer (some ⟨g9, 0, none⟩)), (46, .int .i64 1), (47, .int .i64 0), (61, .int .i64 0), (62, .int .i64 0)] ∧ St w.heap.size w w' [.blk gc 54 (cuC A (ex0 ++ encs [8]).length c 0 []), .row A c 5 1 (ex0 ++ encs [8]).length ((ex0 ++ encs [8]).map uB), .blk g1 69 (netC ⟨1, 1, 1⟩ AL 1 cL), .blk g9 65 (lyC exLy)]) 1 ?_ ?_ ?_
      · intro a' ha; exact ⟨rfl, ha.sub ⟨rfl, rfl, rfl, rfl, rfl, rfl, rfl, trivial⟩, hS⟩
      · rintro a' w' ⟨h, _⟩; omega
      clear hS
      rintro kk a' w1 ⟨hk, hF, hS⟩
      refine gc_of hF ?_
      clear hF
      refine gc_seq fun K16 hK16 => ?_
      refine gc_region ?_
      refine gl_op rfl rfl rfl (op_pure hT rfl) ?_
      refine gl_nil ?_
      refine hK16 _ _ ?_
      clear hK16; try clear K16
      refine gc_seq fun K17 hK17 => ?_
      refine gc_cond_f rfl ?_
      refine gc_exit ?_
      refine hK14 _ _ ?_
      clear hK14; try clear K14
      refine gc_seq fun K18 hK18 => ?_
      refine gc_seq fun K19 hK19 => ?_
      refine gc_region ?_
      refine gl_op rfl rfl rfl (op_fieldB 0 rfl Tryd.underlying65 rfl el3 rfl rfl) ?_
      refine gl_op rfl rfl rfl (op_loadB 3 hT hS rfl rfl rfl rfl rfl rfl) ?_
      refine gl_callf rfl rfl rfl rfl Tryd.func46 rfl rfl rfl (hasA_calls 8 _) ?_
      rintro _ _ ⟨rfl, n75, rfl⟩
      refine ⟨_, rfl, ?_⟩
      have hS := hS.dr n75
      refine gl_nil ?_
      refine hK19 _ _ ?_
      clear hK19; try clear K19
      refine gc_cond_t rfl ?_
      refine gc_region ?_
      refine gl_op rfl rfl rfl (op_pure hT rfl) ?_
      refine gl_op rfl rfl rfl (op_fieldB 9 rfl Tryd.underlying65 rfl el62 rfl rfl) ?_
      refine gl_op rfl rfl rfl (op_loadB 3 hT hS rfl rfl rfl rfl rfl rfl) ?_
      refine gl_lit hT hS el62 rfl rfl rfl rfl rfl rfl rfl rfl rfl fun g79 w79 hS => ?_
      refine gl_callf rfl rfl rfl rfl Tryd.func21 rfl rfl rfl (putFloats_calls gc _ A c (ex0 ++ encs [8]) 0 [] _ _ _ 1 ([exA]) _ hS (fun hS => hS.rdE (i := 4) rfl) rfl (by simp [encs, uintV, encU_small, ex0]) (by decide)) ?_
      rintro _ w80 ⟨rfl, A, c, hS⟩
      refine ⟨_, rfl, ?_⟩
      have hS := hS.erase 4
      rw [ex1_eq] at hS
      refine gl_nil ?_
      refine hK18 _ _ ?_
      clear hK18; try clear K18
      refine gc_seq fun K20 hK20 => ?_
      refine gc_region ?_
      refine gl_op rfl rfl rfl (op_pure hT rfl) ?_
      refine gl_op rfl rfl rfl (op_fieldB 10 rfl Tryd.underlying65 rfl el22 rfl rfl) ?_
      refine gl_op rfl rfl rfl (op_loadB 3 hT hS rfl rfl rfl rfl rfl rfl) ?_
      refine gl_callf rfl rfl rfl rfl Tryd.func21 rfl rfl rfl (putFloats_calls gc _ A c (ex1) 0 [] _ _ _ 0 ([]) _ hS (fun hS => RdE.nil (ok := All) _ _) rfl (by decide) (by simp)) ?_
      rintro _ w84 ⟨rfl, A, c, hS⟩
      refine ⟨_, rfl, ?_⟩
      rw [show ex1 ++ encf [] = ex1 from List.append_nil _] at hS
      refine gl_nil ?_
      refine hK20 _ _ ?_
      clear hK20; try clear K20
      refine gc_seq fun K21 hK21 => ?_
      refine gc_region ?_
      refine gl_op rfl rfl rfl (op_pure hT rfl) ?_
      refine gl_op rfl rfl rfl (op_fieldB 11 rfl Tryd.underlying65 rfl el22 rfl rfl) ?_
      refine gl_op rfl rfl rfl (op_loadB 3 hT hS rfl rfl rfl rfl rfl rfl) ?_
      refine gl_callf rfl rfl rfl rfl Tryd.func21 rfl rfl rfl (putFloats_calls gc _ A c (ex1) 0 [] _ _ _ 0 ([]) _ hS (fun hS => RdE.nil (ok := All) _ _) rfl (by decide) (by simp)) ?_
      rintro _ w88 ⟨rfl, A, c, hS⟩
      refine ⟨_, rfl, ?_⟩
      rw [show ex1 ++ encf [] = ex1 from List.append_nil _] at hS
      refine gl_nil ?_
      refine hK21 _ _ ?_
      clear hK21; try clear K21
      refine gc_seq fun K22 hK22 => ?_
      refine gc_anyS hS (by kernel_rfl) rfl fun nq20 hK => ?_
      have hS := hS.dr nq20
      refine ga_take 0 rfl rfl rfl rfl (by kernel_rfl) (fun _ _ _ _ h => h) hK (fun w1 hS => op_fieldB 12 rfl Tryd.underlying65 rfl el63 rfl rfl) ?_
      refine ga_take 1 rfl rfl rfl rfl (by kernel_rfl) (fun _ _ _ _ h => h) hK (fun w1 hS => op_loadB 3 hT hS rfl rfl rfl rfl rfl rfl) ?_
      refine ga_take 3 rfl rfl rfl rfl (by kernel_rfl) (fun _ _ _ _ h => h) hK (fun w1 hS => op_fieldB 13 rfl Tryd.underlying65 rfl el63 rfl rfl) ?_
      refine ga_take 4 rfl rfl rfl rfl (by kernel_rfl) (fun _ _ _ _ h => h) hK (fun w1 hS => op_loadB 3 hT hS rfl rfl rfl rfl rfl rfl) ?_
      refine ga_take 7 rfl rfl rfl rfl (by kernel_rfl) (fun _ _ _ _ h => h) hK (fun w1 hS => op_pure hT rfl) ?_
      refine ga_one 2 (by kernel_rfl) rfl ?_
      refine gl_append0 hT hS el102 (rd_of (RdE.nil (enc := cV) (ok := All) _ none) rfl) rfl rfl rfl rfl rfl rfl rfl rfl (by decide) (by decide) fun A91 c91 w91 hS => ?_
      refine gl_nil ?_
      refine ga_next (hS.pre 4) fun hK => ?_
      refine ga_one 5 (by kernel_rfl) rfl ?_
      refine gl_append 4 hT hS el102 (rd_of (RdE.nil (enc := cV) (ok := All) _ none) rfl) rfl rfl rfl rfl rfl rfl rfl rfl rfl (by decide) (by decide) fun A94 c94 w94 hS => ?_
      refine gl_nil ?_
      refine ga_next (hS.pre 4) fun hK => ?_
      refine ga_take 6 rfl rfl rfl rfl (by kernel_rfl) (fun _ _ _ _ h => h) hK (fun w1 hS => op_pure hT rfl) ?_
      refine ga_done (by kernel_rfl) ?_
      refine hK22 _ _ ?_
      clear hK22; try clear K22
      refine gc_block ?_
      have hS : St w.heap.size w _ [.blk gc 54 (cuC A (ex1).length c 0 []), .row A c 5 1 (ex1).length ((ex1).map uB), .blk g1 69 (netC ⟨1, 1, 1⟩ AL 1 cL)] := (hS.erase 3).erase 3
      refine gc_loop (fun kk a' w' => kk = 1 ∧ Fr 136 a' [(1, .pointer (some ⟨g1, 0, none⟩)), (7, .pointer (some ⟨gc, 0, none⟩)), (46, .int .i64 1), (47, .int .i64 0), (95, .int .i64 0), (96, .int .i64 0)] ∧ St w.heap.size w w' [.blk gc 54 (cuC A (ex1).length c 0 []), .row A c 5 1 (ex1).length ((ex1).map uB), .blk g1 69 (netC ⟨1, 1, 1⟩ AL 1 cL)]) 1 ?_ ?_ ?_
      · intro a' ha; exact ⟨rfl, ha.sub ⟨rfl, rfl, rfl, rfl, rfl, rfl, trivial⟩, hS⟩
      · rintro a' w' ⟨h, _⟩; omega
      clear hS
      rintro kk a' w1 ⟨hk, hF, hS⟩
      refine gc_of hF ?_
      clear hF
      refine gc_seq fun K23 hK23 => ?_
      refine gc_region ?_
      refine gl_op rfl rfl rfl (op_pure hT rfl) ?_
      refine gl_nil ?_
      refine hK23 _ _ ?_
      clear hK23; try clear K23
      refine gc_seq fun K24 hK24 => ?_
      refine gc_cond_f rfl ?_
      refine gc_exit ?_
      refine hK10 _ _ ?_
      clear hK10; try clear K10
      refine gc_region ?_
      first | refine gl_fit hT rfl rfl rfl rfl (by omega) ?_ | refine gl_op rfl rfl rfl (op_pure hT rfl) ?_
      refine gl_op rfl rfl rfl (op_pure hT rfl) ?_
      refine gl_nil ?_
      intro a' ha
      exact ⟨1, ex1, A, c, ha.sub ⟨rfl, rfl, rfl, rfl, trivial⟩, by omega, by omega, rfl, hS⟩
    · try simp only [decide_eq_true_eq, decide_eq_false_iff_not, Bool.not_eq_true', Bool.not_eq_false', Int.not_lt, Int.not_le, Nat.not_lt, Nat.not_le, Bool.true_eq, Bool.false_eq, reduceCtorEq] at c48
      have hi1 : ¬ i = 0 := by omega
      rw [if_neg hi1] at hm
      subst hm
      refine gc_exit ?_
      refine hK6 _ _ ?_
      clear hK6; try clear K6
      refine gc_seq fun K25 hK25 => ?_
      refine gc_region ?_
      refine gl_op rfl rfl rfl (op_pure hT rfl) ?_
      refine gl_op rfl rfl rfl (op_fieldB 4 rfl Tryd.underlying69 rfl el67 rfl rfl) ?_
      refine gl_op rfl rfl rfl (op_loadB 2 hT hS rfl rfl rfl rfl rfl rfl) ?_
      refine gl_op rfl rfl rfl (op_pure hT rfl) ?_
      refine gl_lit hT hS el3 rfl rfl rfl rfl rfl rfl rfl rfl rfl fun g113 w113 hS => ?_
      refine gl_callf rfl rfl rfl rfl Tryd.func20 rfl rfl rfl (putUint_calls gc _ A c (ex1) 0 [] _ _ _ 1 ([0]) _ hS (.inl rfl) (fun hS => hS.rdE (i := 3) rfl) rfl (by decide) (by decide)) ?_
      rintro _ w114 ⟨rfl, A, c, hS⟩
      refine ⟨_, rfl, ?_⟩
      have hS := hS.erase 3
      rw [ex2_eq] at hS
      refine gl_nil ?_
      refine hK25 _ _ ?_
      clear hK25; try clear K25
      refine gc_seq fun K26 hK26 => ?_
      refine gc_seq fun K27 hK27 => ?_
      refine gc_region ?_
      refine gl_op rfl rfl rfl (op_fieldB 4 rfl Tryd.underlying69 rfl el67 rfl rfl) ?_
      refine gl_op rfl rfl rfl (op_loadB 2 hT hS rfl rfl rfl rfl rfl rfl) ?_
      refine gl_op rfl rfl rfl (op_pure hT rfl) ?_
      refine gl_op rfl rfl rfl (op_pure hT rfl) ?_
      refine gl_nil ?_
      refine hK27 _ _ ?_
      clear hK27; try clear K27
      refine gc_block ?_
      refine gc_loop (fun kk a' w' => kk = 1 ∧ Fr 136 a' [(1, .pointer (some ⟨g1, 0, none⟩)), (7, .pointer (some ⟨gc, 0, none⟩)), (117, .int .i64 0), (118, .int .i64 0)] ∧ St w.heap.size w w' [.blk gc 54 (cuC A (exW).length c 0 []), .row A c 5 1 (exW).length ((exW).map uB), .blk g1 69 (netC ⟨1, 1, 1⟩ AL 1 cL)]) 1 ?_ ?_ ?_
      · intro a' ha; exact ⟨rfl, ha.sub ⟨rfl, rfl, rfl, rfl, trivial⟩, hS⟩
      · rintro a' w' ⟨h, _⟩; omega
      clear hS
      rintro kk a' w1 ⟨hk, hF, hS⟩
      refine gc_of hF ?_
      clear hF
      have hlx : exW.length = 19 := rfl
      refine gc_seq fun K28 hK28 => ?_
      refine gc_region ?_
      refine gl_op rfl rfl rfl (op_pure hT rfl) ?_
      refine gl_nil ?_
      refine hK28 _ _ ?_
      clear hK28; try clear K28
      refine gc_seq fun K29 hK29 => ?_
      refine gc_cond_f rfl ?_
      refine gc_exit ?_
      refine hK26 _ _ ?_
      clear hK26; try clear K26
      refine gc_seq fun K30 hK30 => ?_
      refine gc_anyS (hS.blank 1) (by kernel_rfl) rfl fun nq32 hK => ?_
      have hS := hS.dr nq32
      refine ga_take 0 rfl rfl rfl rfl (by kernel_rfl) (fun _ _ _ _ h => h) hK (fun w1 hS => op_pure hT rfl) ?_
      refine ga_take 1 rfl rfl rfl rfl (by kernel_rfl) (fun _ _ _ _ h => h) hK (fun w1 hS => op_pure hT rfl) ?_
      refine ga_take 2 rfl rfl rfl rfl (by kernel_rfl) (fun _ _ _ _ h => h) hK (fun w1 hS => op_fieldB 0 rfl Tryd.underlying54 rfl el31 rfl rfl) ?_
      refine ga_take 3 rfl rfl rfl rfl (by kernel_rfl) (fun _ _ _ _ h => h) hK (fun w1 hS => op_loadB 0 hT hS rfl rfl rfl rfl rfl rfl) ?_
      refine ga_take 4 rfl rfl rfl rfl (by kernel_rfl) (fun _ _ _ _ h => h) hK (fun w1 hS => op_pure hT rfl) ?_
      refine ga_take 5 rfl rfl rfl rfl (by kernel_rfl) (fun _ _ _ _ h => h) hK (fun w1 hS => op_pure hT rfl) ?_
      refine ga_take 6 rfl rfl rfl rfl (by kernel_rfl) (fun _ _ _ _ h => h) hK (fun w1 hS => op_fieldB 0 rfl Tryd.underlying54 rfl el31 rfl rfl) ?_
      refine ga_take 7 rfl rfl rfl rfl (by kernel_rfl) (fun _ _ _ _ h => h) hK (fun w1 hS => op_loadB 0 hT hS rfl rfl rfl rfl rfl rfl) ?_
      refine ga_one 8 (by kernel_rfl) rfl ?_
      refine gl_callf rfl rfl rfl rfl Tryd.func22 rfl rfl rfl (sealed_calls A _ c exW _ (hS.rdE (i := 1) rfl) rfl (by decide)) ?_
      rintro _ w134 ⟨A134, c134, rfl, hr134, hb134⟩
      refine ⟨_, rfl, ?_⟩
      have hS := hS.addRow hb134 hr134
      refine gl_nil ?_
      refine ga_next ((hS.blank 1).pre 3) fun hK => ?_
      refine ga_one 9 (by kernel_rfl) rfl ?_
      refine gl_append 1 hT hS el5 (hS.rd (i := 3) rfl) (allOne_map (fun _ => rfl) _) rfl rfl rfl rfl rfl rfl rfl rfl (by first | omega | (simp; omega)) (by first | omega | (simp; omega)) fun A135 c135 w135 hS => ?_
      refine gl_nil ?_
      refine ga_next ((hS.blank 1).pre 3) fun hK => ?_
      refine ga_take 10 rfl rfl rfl rfl (by kernel_rfl) (fun _ _ _ _ h => h) hK (fun w1 hS => op_pure hT rfl) ?_
      refine ga_take 11 rfl rfl rfl rfl (by kernel_rfl) (fun _ _ _ _ h => h) hK (fun w1 hS => op_pure hT rfl) ?_
      refine ga_take 12 rfl rfl rfl rfl (by kernel_rfl) (fun _ _ _ _ h => h) hK (fun w1 hS => op_pure hT rfl) ?_
      refine ga_done (by kernel_rfl) ?_
      refine hK30 _ _ ?_
      clear hK30; try clear K30
      refine gc_ret ?_
      try simp only [x_then_ret, x_block_ret]
      refine gk_ret3 rfl rfl rfl rfl ?_
      refine ⟨A135, c135, rfl, ?_⟩
      have hS := ((hS.erase 0).erase 1).erase 1
      rw [show exB = exW ++ le4 (crcV exW) from rfl, List.map_append]
      exact hS
end Go.Proofs.YtnomlloaahoceaaDoor

