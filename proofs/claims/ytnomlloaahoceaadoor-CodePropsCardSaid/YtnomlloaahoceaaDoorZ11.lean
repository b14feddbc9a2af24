/- Contracts of functions that CodeProps reaches, and words to say them. No condition. -/
import Derived.Test.YtnomlloaahoceaaDoorZ10
/- Contracts of package model: model.Shapes, model.Check of networks without names. No condition. -/
namespace Go.Proofs.YtnomlloaahoceaaDoor
open Go.RowKit
set_option linter.unusedVariables false
set_option linter.unusedSimpArgs false
theorem shape_three : ThreeInts Tryd.prog 61 ((Tryd.prog.fieldsOf 61)[0]?.getD default) ((Tryd.prog.fieldsOf 61)[1]?.getD default) ((Tryd.prog.fieldsOf 61)[2]?.getD default) :=
  ⟨by kernel_rfl, by kernel_rfl, of_decide_eq_true (by kernel_rfl), of_decide_eq_true (by kernel_rfl), of_decide_eq_true (by kernel_rfl), by kernel_rfl, by kernel_rfl, by kernel_rfl, by kernel_rfl, by kernel_rfl, by kernel_rfl, by kernel_rfl, by kernel_rfl⟩
theorem sh_ok {s : Sh} (h : ¬ szBad s) : s.ok := by
  have := sz_good h
  exact ⟨⟨by omega, by omega⟩, ⟨by omega, by omega⟩, ⟨by omega, by omega⟩⟩
@[reducible] def netC (s : Sh) (A : Option Addr) (n c : Nat) : List Value := [.int .i64 s.c, .int .i64 s.h, .int .i64 s.w, .slice A n c, .slice none 0 0]
theorem sh_eq {a b : Sh} (h : a.c = b.c ∧ a.h = b.h ∧ a.w = b.w) : a = b := by
  obtain ⟨h1, h2, h3⟩ := h
  cases a; cases b; simp_all
set_option maxHeartbeats 4000000 in
set_option maxRecDepth 100000 in
theorem shapes_calls (s0 : Sh) (A : Option Addr) (c : Nat) (xs : List Lx) (w : World) (hs : s0.ok) {ok : Nat → Prop} (hrd : RdS w ok lxC 14 A xs) (hD : ∀ x ∈ xs, LyM w ok x) :
    Calls Tryd.prog 73 ⟨[.agg ⟨netC s0 A xs.length c⟩]⟩ w fun e w' => (∃ A' n' c', e = .returned (.tuple #[.slice A' n' c', .int .i64 (shapesV s0 xs).1, .int .i64 (shapesV s0 xs).2])) ∧ Below w.heap.size w w' := by
  refine gc_enter (N := 104) Tryd.func73 rfl rfl rfl [(0, _)] rfl ?_
  have hS := St.start w
  refine gc_seq fun K1 hK1 => ?_
  refine gc_region ?_
  refine gl_box hS rfl rfl rfl rfl rfl fun g1 w1 hS => ?_
  refine gl_op rfl rfl rfl (op_pure hT rfl) ?_
  refine gl_op rfl rfl rfl (op_pure hT rfl) ?_
  refine gl_op rfl rfl rfl (op_pure hT rfl) ?_
  refine gl_nil ?_
  refine hK1 _ _ ?_
  clear hK1; try clear K1
  refine gc_seq fun K2 hK2 => ?_
  refine gc_region ?_
  refine gl_op rfl rfl rfl (op_fieldB 0 rfl Tryd.underlying69 rfl el61 rfl rfl) ?_
  refine gl_op rfl rfl rfl (op_loadG 0 Tryd.underlying61 rfl el61 hS rfl rfl rfl rfl rfl) ?_
  refine gl_callf rfl rfl rfl rfl Tryd.func52 rfl rfl rfl (mSize_calls s0 _ hs) ?_
  rintro _ w19 ⟨rfl, hb19⟩
  refine ⟨_, rfl, ?_⟩
  have hS := hS.grown hb19
  refine gl_op rfl rfl rfl (op_pure hT rfl) ?_
  refine gl_op rfl rfl rfl (op_pure hT rfl) ?_
  refine gl_op rfl rfl rfl (op_pure hT rfl) ?_
  refine gl_op rfl rfl rfl (op_pure hT rfl) ?_
  refine gl_op rfl rfl rfl (op_pure hT rfl) ?_
  refine gl_nil ?_
  refine hK2 _ _ ?_
  clear hK2; try clear K2
  refine gc_seq fun K3 hK3 => ?_
  refine gc_seq fun K4 hK4 => ?_
  refine gc_region ?_
  refine gl_op rfl rfl rfl (op_pure hT rfl) ?_
  refine gl_op rfl rfl rfl (op_pure hT rfl) ?_
  refine gl_nil ?_
  refine hK4 _ _ ?_
  clear hK4; try clear K4
  refine gc_cond rfl rfl (fun c23 => ?_) (fun c23 => ?_)
  · try simp only [decide_eq_true_eq, decide_eq_false_iff_not, Bool.not_eq_true', Bool.not_eq_false', Int.not_lt, Int.not_le, Nat.not_lt, Nat.not_le, Bool.true_eq, Bool.false_eq, reduceCtorEq] at c23
    refine gc_seq fun K5 hK5 => ?_
    refine gc_region ?_
    refine gl_op rfl rfl rfl (op_pure hT rfl) ?_
    refine gl_op rfl rfl rfl (op_pure hT rfl) ?_
    refine gl_op rfl rfl rfl (op_pure hT rfl) ?_
    refine gl_op rfl rfl rfl (op_pure hT rfl) ?_
    refine gl_nil ?_
    refine hK5 _ _ ?_
    clear hK5; try clear K5
    refine gc_ret ?_
    try simp only [x_then_ret, x_block_ret]
    refine gk_ret3 rfl rfl rfl rfl ?_
    exact ⟨⟨none, 0, 0, by unfold shapesV; rw [if_pos c23]; rfl⟩, hS.below⟩
  · try simp only [decide_eq_true_eq, decide_eq_false_iff_not, Bool.not_eq_true', Bool.not_eq_false', Int.not_lt, Int.not_le, Nat.not_lt, Nat.not_le, Bool.true_eq, Bool.false_eq, reduceCtorEq] at c23
    have hsz := sizeV_ok c23
    have c23' : ¬ (sizeV s0).2 ≠ 0 := by rw [c23]; simp
    refine gc_skip ?_
    refine hK3 _ _ ?_
    clear hK3; try clear K3
    refine gc_seq fun K6 hK6 => ?_
    refine gc_seq fun K7 hK7 => ?_
    refine gc_region ?_
    refine gl_op rfl rfl rfl (op_fieldB 3 rfl Tryd.underlying69 rfl el66 rfl rfl) ?_
    refine gl_op rfl rfl rfl (op_loadB 0 hT hS rfl rfl rfl rfl rfl rfl) ?_
    refine gl_op rfl rfl rfl (op_pure hT rfl) ?_
    refine gl_op rfl rfl rfl (op_pure hT rfl) ?_
    refine gl_nil ?_
    refine hK7 _ _ ?_
    clear hK7; try clear K7
    refine gc_cond rfl rfl (fun c28 => ?_) (fun c28 => ?_)
    · try simp only [decide_eq_true_eq, decide_eq_false_iff_not, Bool.not_eq_true', Bool.not_eq_false', Int.not_lt, Int.not_le, Nat.not_lt, Nat.not_le, Bool.true_eq, Bool.false_eq, reduceCtorEq] at c28
      refine gc_seq fun K8 hK8 => ?_
      refine gc_region ?_
      refine gl_op rfl rfl rfl (op_pure hT rfl) ?_
      refine gl_op rfl rfl rfl (op_pure hT rfl) ?_
      refine gl_op rfl rfl rfl (op_pure hT rfl) ?_
      refine gl_nil ?_
      refine hK8 _ _ ?_
      clear hK8; try clear K8
      refine gc_ret ?_
      try simp only [x_then_ret, x_block_ret]
      refine gk_ret3 rfl rfl rfl rfl ?_
      exact ⟨⟨none, 0, 0, by unfold shapesV; rw [if_neg c23', if_pos (by omega)]⟩, hS.below⟩
    · try simp only [decide_eq_true_eq, decide_eq_false_iff_not, Bool.not_eq_true', Bool.not_eq_false', Int.not_lt, Int.not_le, Nat.not_lt, Nat.not_le, Bool.true_eq, Bool.false_eq, reduceCtorEq] at c28
      refine gc_skip ?_
      refine hK6 _ _ ?_
      clear hK6; try clear K6
      refine gc_seq fun K9 hK9 => ?_
      refine gc_region ?_
      refine gl_op rfl rfl rfl (op_fieldB 0 rfl Tryd.underlying69 rfl el61 rfl rfl) ?_
      refine gl_op rfl rfl rfl (op_loadG 0 Tryd.underlying61 rfl el61 hS rfl rfl rfl rfl rfl) ?_
      refine gl_litS hT hS el61 rfl rfl rfl rfl rfl rfl rfl (by decide) fun g31 w31 hS => ?_
      refine gl_op rfl rfl rfl (op_pure hT rfl) ?_
      refine gl_nil ?_
      refine hK9 _ _ ?_
      clear hK9; try clear K9
      refine gc_seq fun K10 hK10 => ?_
      refine gc_region ?_
      refine gl_op rfl rfl rfl (op_pure hT rfl) ?_
      refine gl_nil ?_
      refine hK10 _ _ ?_
      clear hK10; try clear K10
      refine gc_seq fun K11 hK11 => ?_
      refine gc_seq fun K12 hK12 => ?_
      refine gc_region ?_
      refine gl_op rfl rfl rfl (op_fieldB 3 rfl Tryd.underlying69 rfl el66 rfl rfl) ?_
      refine gl_op rfl rfl rfl (op_loadB 0 hT hS rfl rfl rfl rfl rfl rfl) ?_
      refine gl_op rfl rfl rfl (op_pure hT rfl) ?_
      refine gl_op rfl rfl rfl (op_pure hT rfl) ?_
      refine gl_nil ?_
      refine hK12 _ _ ?_
      clear hK12; try clear K12
      refine gc_block ?_
      have hsv : shapesV s0 xs = shpGo 0 [s0] 0 xs := by unfold shapesV; rw [if_neg c23', if_neg (by omega)]
      refine gc_loop (fun k a w' => ∃ (i : Nat) (ss : List Sh) (wt sz : Int) (A7 : Option Addr) (c7 : Nat), Fr 104 a [(1, .pointer (some ⟨g1, 0, none⟩)), (5, .int .i64 sz), (7, .slice A7 ss.length c7), (8, .int .i64 wt), (33, .slice A xs.length c), (34, .int .i64 (xs.length : Nat)), (35, .int .i64 (i : Nat))] ∧ i ≤ xs.length ∧ k = xs.length + 1 - i ∧ ss.length = i + 1 ∧
        (∀ s ∈ ss, s.ok) ∧ (0 ≤ wt ∧ wt ≤ 65536) ∧ shapesV s0 xs = shpGo i ss wt (xs.drop i) ∧
        St w.heap.size w w' [.blk g1 69 (netC s0 A xs.length c), .row A7 c7 61 3 ss.length (ss.map shC).flatten]) (xs.length + 1) ?_ ?_ ?_
      · intro a ha
        refine ⟨0, [s0], 0, _, _, _, ha.sub ⟨rfl, rfl, rfl, rfl, rfl, rfl, rfl, trivial⟩, by omega, by omega, rfl, fun s h => ?_, by omega, hsv, hS⟩
        rw [List.mem_singleton] at h; rw [h]; exact hs
      · rintro a w' ⟨i, _, _, _, _, _, _, h1, h2, _⟩; omega
      rintro k a w1 ⟨i, ss, wt, sz, A7, c7, hF, hi, hk, hss, hso, hwt, hsv, hS⟩
      refine gc_of hF ?_
      clear hF
      refine gc_seq fun K13 hK13 => ?_
      refine gc_region ?_
      refine gl_op rfl rfl rfl (op_pure hT rfl) ?_
      refine gl_nil ?_
      refine hK13 _ _ ?_
      clear hK13; try clear K13
      refine gc_seq fun K14 hK14 => ?_
      refine gc_cond rfl rfl (fun c36 => ?_) (fun c36 => ?_)
      · try simp only [decide_eq_true_eq, decide_eq_false_iff_not, Bool.not_eq_true', Bool.not_eq_false', Int.not_lt, Int.not_le, Nat.not_lt, Nat.not_le, Bool.true_eq, Bool.false_eq, reduceCtorEq] at c36
        refine gc_skip ?_
        refine hK14 _ _ ?_
        clear hK14; try clear K14
        refine gc_seq fun K15 hK15 => ?_
        refine gc_block ?_
        refine gc_seq fun K16 hK16 => ?_
        refine gc_region ?_
        refine gl_op rfl rfl rfl (op_pure hT rfl) ?_
        have hil : i < xs.length := by omega
        obtain ⟨x, hx⟩ : ∃ x, xs[i]? = some x := ⟨_, List.getElem?_eq_getElem hil⟩
        have hxm := List.mem_of_getElem? hx
        obtain ⟨adx, hAx, hcx⟩ := (hrd.old (by decide) hS).at hx
        have hdrop : xs.drop i = x :: xs.drop (i + 1) := by
          rw [List.drop_eq_getElem_cons hil]
          have : xs[i] = x := by rw [List.getElem?_eq_getElem hil] at hx; exact Option.some.inj hx
          rw [this]
        rw [hdrop] at hsv
        refine gl_op rfl rfl rfl (op_indexAddr hT rfl rfl el65.cellsOf.1 el65.cellsOf.2 rfl rfl (by omega) (by omega) hAx) ?_
        refine gl_op rfl rfl rfl (op_loadS Tryd.underlying65 rfl el65 rfl rfl hcx rfl) ?_
        refine gl_alloc el65 hS rfl rfl rfl rfl fun g10 w10 hS => ?_
        refine gl_op rfl rfl rfl (op_pure hT rfl) ?_
        refine gl_storeM 2 hS el65 rfl rfl rfl rfl rfl rfl rfl rfl rfl fun wmodel_go_212 hS => ?_
        refine gl_nil ?_
        refine hK16 _ _ ?_
        clear hK16; try clear K16
        refine gc_seq fun K17 hK17 => ?_
        refine gc_region ?_
        refine gl_op rfl rfl rfl (op_pure hT rfl) ?_
        refine gl_op rfl rfl rfl (op_pure hT rfl) ?_
        have hS : St w.heap.size w _ [.blk g1 69 (netC s0 A xs.length c), .row A7 c7 61 3 ss.length (ss.map shC).flatten, .blk g10 65 (lyC x.L)] := hS
        obtain ⟨s, hsi⟩ : ∃ s, ss[i]? = some s := ⟨_, List.getElem?_eq_getElem (by omega)⟩
        have hsg : ss.getD i ⟨0, 0, 0⟩ = s := by rw [List.getD_eq_getElem?_getD, hsi]; rfl
        have hsok := hso s (List.mem_of_getElem? hsi)
        have hRs : RdS _ All shC 3 A7 ss := ⟨hS.rd (i := 1) rfl, fun _ => rfl⟩
        obtain ⟨ad7, hA7, hc7⟩ := hRs.at hsi
        refine gl_op rfl rfl rfl (op_indexAddr hT rfl rfl el61.cellsOf.1 el61.cellsOf.2 rfl rfl (by omega) (by omega) hA7) ?_
        refine gl_op rfl rfl rfl (op_loadS Tryd.underlying61 rfl el61 rfl rfl hc7 rfl) ?_
        refine gl_alloc el61 hS rfl rfl rfl rfl fun g11 w11 hS => ?_
        refine gl_storeM 3 hS el61 rfl rfl rfl rfl rfl rfl rfl rfl rfl fun wmodel_go_213 hS => ?_
        refine gl_nil ?_
        refine hK17 _ _ ?_
        clear hK17; try clear K17
        refine gc_seq fun K18 hK18 => ?_
        refine gc_seq fun K19 hK19 => ?_
        refine gc_region ?_
        refine gl_op rfl rfl rfl (op_loadG 2 Tryd.underlying65 rfl el65 hS rfl rfl rfl rfl rfl) ?_
        refine gl_op rfl rfl rfl (op_loadG 3 Tryd.underlying61 rfl el61 hS rfl rfl rfl rfl rfl) ?_
        have hS : St w.heap.size w _ [.blk g1 69 (netC s0 A xs.length c), .row A7 c7 61 3 ss.length (ss.map shC).flatten, .blk g10 65 (lyC x.L), .blk g11 61 (shC s)] := hS
        have Dx := (hD x hxm).old hS
        have hsz3 : shpGo i ss wt (x :: xs.drop (i + 1)) = (if layV x s ≠ 0 then (layV x s, (i : Int) + 1) else if x.L.k = 5 ∧ ((i : Int) < x.L.fr ∨ ss.getD x.L.fr.toNat ⟨0, 0, 0⟩ ≠ s) then (66, (i : Int) + 1) else
          if 65536 < wt + wtsV x then (65, (i : Int) + 1) else shpGo (i + 1) (ss ++ [(outV x.L s).1]) (wt + wtsV x) (xs.drop (i + 1))) := by rw [← hsg]; rfl
        rw [hsz3] at hsv
        refine gl_callf rfl rfl rfl rfl Tryd.func86 rfl rfl rfl (layer_calls x s _ hsok Dx) ?_
        rintro _ w46 ⟨rfl, hb46⟩
        refine ⟨_, rfl, ?_⟩
        have hS := hS.grown hb46
        refine gl_op rfl rfl rfl (op_pure hT rfl) ?_
        refine gl_nil ?_
        refine hK19 _ _ ?_
        clear hK19; try clear K19
        refine gc_seq fun K20 hK20 => ?_
        refine gc_region ?_
        refine gl_op rfl rfl rfl (op_pure hT rfl) ?_
        refine gl_op rfl rfl rfl (op_pure hT rfl) ?_
        refine gl_nil ?_
        refine hK20 _ _ ?_
        clear hK20; try clear K20
        refine gc_cond rfl rfl (fun c48 => ?_) (fun c48 => ?_)
        · try simp only [decide_eq_true_eq, decide_eq_false_iff_not, Bool.not_eq_true', Bool.not_eq_false', Int.not_lt, Int.not_le, Nat.not_lt, Nat.not_le, Bool.true_eq, Bool.false_eq, reduceCtorEq] at c48
          refine gc_seq fun K21 hK21 => ?_
          refine gc_region ?_
          refine gl_op rfl rfl rfl (op_pure hT rfl) ?_
          refine gl_op rfl rfl rfl (op_pure hT rfl) ?_
          first | refine gl_fit hT rfl rfl rfl rfl (by omega) ?_ | refine gl_op rfl rfl rfl (op_pure hT rfl) ?_
          refine gl_op rfl rfl rfl (op_pure hT rfl) ?_
          refine gl_op rfl rfl rfl (op_pure hT rfl) ?_
          refine gl_op rfl rfl rfl (op_pure hT rfl) ?_
          refine gl_nil ?_
          refine hK21 _ _ ?_
          clear hK21; try clear K21
          refine gc_ret ?_
          try simp only [x_then_ret, x_block_ret]
          refine gk_ret3 rfl rfl rfl rfl ?_
          rw [if_pos c48] at hsv
          exact ⟨⟨none, 0, 0, by rw [hsv] <;> rfl⟩, hS.below⟩
        · try simp only [decide_eq_true_eq, decide_eq_false_iff_not, Bool.not_eq_true', Bool.not_eq_false', Int.not_lt, Int.not_le, Nat.not_lt, Nat.not_le, Bool.true_eq, Bool.false_eq, reduceCtorEq] at c48
          have hout0 := layV_0 c48
          obtain ⟨hf0, hszs, hnw, hn6, hszo, hoe⟩ := outV_ok hout0
          obtain ⟨hk1, hk2, hfo⟩ := fv_zero hf0
          have hfr := hfo.2.2
          rw [if_neg (by rw [c48]; simp)] at hsv
          refine gc_skip ?_
          refine hK18 _ _ ?_
          clear hK18; try clear K18
          refine gc_seq fun K22 hK22 => ?_
          refine gc_seq fun K23 hK23 => ?_
          refine gc_anyS hS (by kernel_rfl) rfl fun nq15 hK => ?_
          have hS := hS.dr nq15
          have hfr5 : x.L.k = 5 → 0 ≤ x.L.fr := by intro h; rw [if_pos h] at hfr; omega
          obtain ⟨s2, hs2⟩ : ∃ s2, s2 = ss.getD x.L.fr.toNat ⟨0, 0, 0⟩ := ⟨_, rfl⟩
          rw [← hs2] at hsv
          have hf2 : x.L.fr ≤ i → ss[x.L.fr.toNat]? = some s2 := by
            intro h
            have hlt : x.L.fr.toNat < ss.length := by omega
            rw [hs2, List.getD_eq_getElem?_getD, List.getElem?_eq_getElem hlt]; rfl
          refine ga_take 0 rfl rfl rfl rfl (by kernel_rfl) (fun _ _ _ _ h => h) hK (fun w1 hS => op_fieldB 0 rfl Tryd.underlying65 rfl el3 rfl rfl) ?_
          refine ga_take 1 rfl rfl rfl rfl (by kernel_rfl) (fun _ _ _ _ h => h) hK (fun w1 hS => op_loadB 2 hT hS rfl rfl rfl rfl rfl rfl) ?_
          refine ga_take 2 rfl rfl rfl rfl (by kernel_rfl) (fun _ _ _ _ h => h) hK (fun w1 hS => op_pure hT rfl) ?_
          refine ga_take 3 rfl rfl rfl rfl (by kernel_rfl) (fun _ _ _ _ h => h) hK (fun w1 hS => op_pure hT rfl) ?_
          refine ga_split (t := 55) rfl (fun c55 => ?_) (fun c55 => ?_)
          · try simp only [decide_eq_true_eq, decide_eq_false_iff_not, Bool.not_eq_true', Bool.not_eq_false', Int.not_lt, Int.not_le, Nat.not_lt, Nat.not_le, Bool.true_eq, Bool.false_eq, reduceCtorEq] at c55
            refine ga_take_at 4 rfl rfl rfl rfl rfl rfl rfl (by kernel_rfl) (fun _ _ _ _ h => h) hK (fun w1 hS => op_fieldB 8 rfl Tryd.underlying65 rfl el3 rfl rfl) ?_
            refine ga_take_at 5 rfl rfl rfl rfl rfl rfl rfl (by kernel_rfl) (fun _ _ _ _ h => h) hK (fun w1 hS => op_loadB 2 hT hS rfl rfl rfl rfl rfl rfl) ?_
            refine ga_take_at 6 rfl rfl rfl rfl rfl rfl rfl (by kernel_rfl) (fun _ _ _ _ h => h) hK (fun w1 hS => op_pure hT rfl) ?_
            refine ga_take_at 7 rfl rfl rfl rfl rfl rfl rfl (by kernel_rfl) (fun _ _ _ _ h => h) hK (fun w1 hS => op_pure hT rfl) ?_
            refine ga_take_at 8 rfl rfl rfl rfl rfl rfl rfl (by kernel_rfl) (fun _ _ _ _ h => h) hK (fun w1 hS => op_pure hT rfl) ?_
            refine ga_split (t := 60) rfl (fun c60 => ?_) (fun c60 => ?_)
            · try simp only [decide_eq_true_eq, decide_eq_false_iff_not, Bool.not_eq_true', Bool.not_eq_false', Int.not_lt, Int.not_le, Nat.not_lt, Nat.not_le, Bool.true_eq, Bool.false_eq, reduceCtorEq] at c60
              refine ga_pass 9 rfl rfl rfl rfl rfl rfl rfl (by kernel_rfl) (fun _ _ _ _ h => h) hK ?_
              refine ga_pass 10 rfl rfl rfl rfl rfl rfl rfl (by kernel_rfl) (fun _ _ _ _ h => h) hK ?_
              refine ga_pass 11 rfl rfl rfl rfl rfl rfl rfl (by kernel_rfl) (fun _ _ _ _ h => h) hK ?_
              refine ga_pass 12 rfl rfl rfl rfl rfl rfl rfl (by kernel_rfl) (fun _ _ _ _ h => h) hK ?_
              refine ga_pass 13 rfl rfl rfl rfl rfl rfl rfl (by kernel_rfl) (fun _ _ _ _ h => h) hK ?_
              refine ga_pass 14 rfl rfl rfl rfl rfl rfl rfl (by kernel_rfl) (fun _ _ _ _ h => h) hK ?_
              refine ga_pass 15 rfl rfl rfl rfl rfl rfl rfl (by kernel_rfl) (fun _ _ _ _ h => h) hK ?_
              refine ga_take_at 16 rfl rfl rfl rfl rfl rfl rfl (by kernel_rfl) (fun _ _ _ _ h => h) hK (fun w1 hS => op_pure hT rfl) ?_
              refine ga_take 17 rfl rfl rfl rfl (by kernel_rfl) (fun _ _ _ _ h => h) hK (fun w1 hS => op_pure hT rfl) ?_
              refine ga_done (by kernel_rfl) ?_
              refine hK23 _ _ ?_
              clear hK23; try clear K23
              refine gc_cond_t rfl ?_
              refine gc_seq fun K24 hK24 => ?_
              refine gc_region ?_
              refine gl_op rfl rfl rfl (op_pure hT rfl) ?_
              first | refine gl_fit hT rfl rfl rfl rfl (by omega) ?_ | refine gl_op rfl rfl rfl (op_pure hT rfl) ?_
              refine gl_op rfl rfl rfl (op_pure hT rfl) ?_
              refine gl_op rfl rfl rfl (op_pure hT rfl) ?_
              refine gl_op rfl rfl rfl (op_pure hT rfl) ?_
              refine gl_nil ?_
              refine hK24 _ _ ?_
              clear hK24; try clear K24
              refine gc_ret ?_
              try simp only [x_then_ret, x_block_ret]
              refine gk_ret3 rfl rfl rfl rfl ?_
              have hpo : x.L.k = 5 ∧ ((i : Int) < x.L.fr ∨ s2 ≠ s) := ⟨c55, .inl c60⟩
              rw [if_pos hpo] at hsv
              exact ⟨⟨none, 0, 0, by rw [hsv]⟩, hS.below⟩
            · try simp only [decide_eq_true_eq, decide_eq_false_iff_not, Bool.not_eq_true', Bool.not_eq_false', Int.not_lt, Int.not_le, Nat.not_lt, Nat.not_le, Bool.true_eq, Bool.false_eq, reduceCtorEq] at c60
              refine ga_take_at 9 rfl rfl rfl rfl rfl rfl rfl (by kernel_rfl) (fun _ _ _ _ h => h) hK (fun w1 hS => op_pure hT rfl) ?_
              refine ga_take_at 10 rfl rfl rfl rfl rfl rfl rfl (by kernel_rfl) (fun _ _ _ _ h => h) hK (fun w1 hS => op_fieldB 8 rfl Tryd.underlying65 rfl el3 rfl rfl) ?_
              refine ga_take_at 11 rfl rfl rfl rfl rfl rfl rfl (by kernel_rfl) (fun _ _ _ _ h => h) hK (fun w1 hS => op_loadB 2 hT hS rfl rfl rfl rfl rfl rfl) ?_
              refine ga_take_at 12 rfl rfl rfl rfl rfl rfl rfl (by kernel_rfl) (fun _ _ _ _ h => h) hK (fun w1 hS => op_indexAddr hT rfl rfl el61.cellsOf.1 el61.cellsOf.2 rfl rfl (by have := hfr5 (by omega); omega) (by have := hfr5 (by omega); omega) hA7) ?_
              refine ga_take_at 13 rfl rfl rfl rfl rfl rfl rfl (by kernel_rfl) (fun _ _ _ _ h => h) hK (fun w1 hS => op_loadS Tryd.underlying61 rfl el61 rfl rfl (RdS.cells (⟨hS.rd (i := 1) rfl, fun _ => rfl⟩ : RdS _ All shC 3 A7 ss) hA7 (hf2 (by omega))) rfl) ?_
              refine ga_take_at 14 rfl rfl rfl rfl rfl rfl rfl (by kernel_rfl) (fun _ _ _ _ h => h) hK (fun w1 hS => op_loadG 3 Tryd.underlying61 rfl el61 hS rfl rfl rfl rfl rfl) ?_
              refine ga_take_at 15 rfl rfl rfl rfl rfl rfl rfl (by kernel_rfl) (fun _ _ _ _ h => h) hK (fun w1 hS => op_neq3 shape_three rfl rfl rfl) ?_
              refine ga_take_at 16 rfl rfl rfl rfl rfl rfl rfl (by kernel_rfl) (fun _ _ _ _ h => h) hK (fun w1 hS => op_pure hT rfl) ?_
              refine ga_take 17 rfl rfl rfl rfl (by kernel_rfl) (fun _ _ _ _ h => h) hK (fun w1 hS => op_pure hT rfl) ?_
              refine ga_done (by kernel_rfl) ?_
              refine hK23 _ _ ?_
              clear hK23; try clear K23
              refine gc_cond rfl rfl (fun c69 => ?_) (fun c69 => ?_)
              · try simp only [decide_eq_true_eq, decide_eq_false_iff_not, Bool.not_eq_true', Bool.not_eq_false', Int.not_lt, Int.not_le, Nat.not_lt, Nat.not_le, Bool.true_eq, Bool.false_eq, reduceCtorEq] at c69
                refine gc_seq fun K25 hK25 => ?_
                refine gc_region ?_
                refine gl_op rfl rfl rfl (op_pure hT rfl) ?_
                first | refine gl_fit hT rfl rfl rfl rfl (by omega) ?_ | refine gl_op rfl rfl rfl (op_pure hT rfl) ?_
                refine gl_op rfl rfl rfl (op_pure hT rfl) ?_
                refine gl_op rfl rfl rfl (op_pure hT rfl) ?_
                refine gl_op rfl rfl rfl (op_pure hT rfl) ?_
                refine gl_nil ?_
                refine hK25 _ _ ?_
                clear hK25; try clear K25
                refine gc_ret ?_
                try simp only [x_then_ret, x_block_ret]
                refine gk_ret3 rfl rfl rfl rfl ?_
                have hpo : x.L.k = 5 ∧ ((i : Int) < x.L.fr ∨ s2 ≠ s) := ⟨c55, .inr fun h => c69 (by rw [h]; exact ⟨rfl, rfl, rfl⟩)⟩
                rw [if_pos hpo] at hsv
                exact ⟨⟨none, 0, 0, by rw [hsv]⟩, hS.below⟩
              · try simp only [decide_eq_true_eq, decide_eq_false_iff_not, Bool.not_eq_true', Bool.not_eq_false', Int.not_lt, Int.not_le, Nat.not_lt, Nat.not_le, Bool.true_eq, Bool.false_eq, reduceCtorEq] at c69
                refine gc_skip ?_
                refine hK22 _ _ ?_
                clear hK22; try clear K22
                refine gc_seq fun K26 hK26 => ?_
                refine gc_seq fun K27 hK27 => ?_
                refine gc_region ?_
                refine gl_op rfl rfl rfl (op_pure hT rfl) ?_
                refine gl_op rfl rfl rfl (op_loadG 2 Tryd.underlying65 rfl el65 hS rfl rfl rfl rfl rfl) ?_
                refine gl_callf rfl rfl rfl rfl Tryd.func87 rfl rfl rfl (weights_calls x _ ((hD x hxm).old hS)) ?_
                rintro _ w74 ⟨rfl, hb74⟩
                refine ⟨_, rfl, ?_⟩
                have hS := hS.grown hb74
                have hwv : 0 ≤ wtsV x ∧ wtsV x ≤ 1000000000000000 := by
                  have := (hD x hxm).lW
                  have := (hD x hxm).lB
                  have := (hD x hxm).lZ
                  have := (hD x hxm).lZB
                  unfold wtsV
                  omega
                refine gl_fit hT rfl rfl rfl rfl (by omega) ?_
                have hne : ¬ (x.L.k = 5 ∧ ((i : Int) < x.L.fr ∨ s2 ≠ s)) := by
                  rintro ⟨h5, h⟩
                  rcases h with h | h
                  · omega
                  · first
                      | omega
                      | exact h (sh_eq (by simpa using c69))
                rw [if_neg hne] at hsv
                refine gl_op rfl rfl rfl (op_pure hT rfl) ?_
                refine gl_nil ?_
                refine hK27 _ _ ?_
                clear hK27; try clear K27
                refine gc_seq fun K28 hK28 => ?_
                refine gc_region ?_
                refine gl_op rfl rfl rfl (op_pure hT rfl) ?_
                refine gl_op rfl rfl rfl (op_pure hT rfl) ?_
                refine gl_nil ?_
                refine hK28 _ _ ?_
                clear hK28; try clear K28
                refine gc_cond rfl rfl (fun c77 => ?_) (fun c77 => ?_)
                · try simp only [decide_eq_true_eq, decide_eq_false_iff_not, Bool.not_eq_true', Bool.not_eq_false', Int.not_lt, Int.not_le, Nat.not_lt, Nat.not_le, Bool.true_eq, Bool.false_eq, reduceCtorEq] at c77
                  refine gc_seq fun K29 hK29 => ?_
                  refine gc_region ?_
                  refine gl_op rfl rfl rfl (op_pure hT rfl) ?_
                  first | refine gl_fit hT rfl rfl rfl rfl (by omega) ?_ | refine gl_op rfl rfl rfl (op_pure hT rfl) ?_
                  refine gl_op rfl rfl rfl (op_pure hT rfl) ?_
                  refine gl_op rfl rfl rfl (op_pure hT rfl) ?_
                  refine gl_op rfl rfl rfl (op_pure hT rfl) ?_
                  refine gl_nil ?_
                  refine hK29 _ _ ?_
                  clear hK29; try clear K29
                  refine gc_ret ?_
                  try simp only [x_then_ret, x_block_ret]
                  refine gk_ret3 rfl rfl rfl rfl ?_
                  rw [if_pos c77] at hsv
                  exact ⟨⟨none, 0, 0, by rw [hsv]⟩, hS.below⟩
                · try simp only [decide_eq_true_eq, decide_eq_false_iff_not, Bool.not_eq_true', Bool.not_eq_false', Int.not_lt, Int.not_le, Nat.not_lt, Nat.not_le, Bool.true_eq, Bool.false_eq, reduceCtorEq] at c77
                  refine gc_skip ?_
                  refine hK26 _ _ ?_
                  clear hK26; try clear K26
                  refine gc_seq fun K30 hK30 => ?_
                  refine gc_region ?_
                  refine gl_op rfl rfl rfl (op_loadG 2 Tryd.underlying65 rfl el65 hS rfl rfl rfl rfl rfl) ?_
                  refine gl_op rfl rfl rfl (op_loadG 3 Tryd.underlying61 rfl el61 hS rfl rfl rfl rfl rfl) ?_
                  refine gl_callf rfl rfl rfl rfl Tryd.func77 rfl rfl rfl (mOut_calls x.L s _ (hD x hxm).okL hsok) ?_
                  rintro _ w83 ⟨rfl, hb83⟩
                  refine ⟨_, rfl, ?_⟩
                  have hS := hS.grown hb83
                  refine gl_op rfl rfl rfl (op_pure hT rfl) ?_
                  refine gl_op rfl rfl rfl (op_pure hT rfl) ?_
                  refine gl_op rfl rfl rfl (op_pure hT rfl) ?_
                  refine gl_alloc el61 hS rfl rfl rfl rfl fun g13 w13 hS => ?_
                  refine gl_storeM 4 hS el61 rfl rfl rfl rfl rfl rfl rfl rfl rfl fun wmodel_go_223 hS => ?_
                  refine gl_op rfl rfl rfl (op_pure hT rfl) ?_
                  refine gl_nil ?_
                  refine hK30 _ _ ?_
                  clear hK30; try clear K30
                  refine gc_seq fun K31 hK31 => ?_
                  refine gc_region ?_
                  refine gl_op rfl rfl rfl (op_pure hT rfl) ?_
                  refine gl_op rfl rfl rfl (op_loadG 4 Tryd.underlying61 rfl el61 hS rfl rfl rfl rfl rfl) ?_
                  have hS : St w.heap.size w _ [.blk g1 69 (netC s0 A xs.length c), .row A7 c7 61 3 ss.length (ss.map shC).flatten, .blk g10 65 (lyC x.L), .blk g11 61 (shC s), .blk g13 61 (shC (outV x.L s).1)] := hS
                  refine gl_litS hT hS el61 rfl rfl rfl rfl rfl rfl rfl (by decide) fun g88 w88 hS => ?_
                  refine gl_append 1 hT hS el61 (hS.rd (i := 5) rfl) rfl rfl rfl rfl rfl rfl rfl rfl rfl (by omega) (by omega) fun A89 c89 w89 hS => ?_
                  have hS := hS.pre 5
                  refine gl_op rfl rfl rfl (op_pure hT rfl) ?_
                  refine gl_nil ?_
                  refine hK31 _ _ ?_
                  clear hK31; try clear K31
                  refine gc_region ?_
                  refine gl_op rfl rfl rfl (op_loadG 4 Tryd.underlying61 rfl el61 hS rfl rfl rfl rfl rfl) ?_
                  refine gl_callf rfl rfl rfl rfl Tryd.func52 rfl rfl rfl (mSize_calls (outV x.L s).1 _ (by rw [hoe]; exact sh_ok hszo)) ?_
                  rintro _ w92 ⟨rfl, hb92⟩
                  refine ⟨_, rfl, ?_⟩
                  have hS := hS.grown hb92
                  refine gl_op rfl rfl rfl (op_pure hT rfl) ?_
                  refine gl_op rfl rfl rfl (op_pure hT rfl) ?_
                  refine gl_op rfl rfl rfl (op_pure hT rfl) ?_
                  refine gl_op rfl rfl rfl (op_pure hT rfl) ?_
                  refine gl_nil ?_
                  refine hK15 _ _ ?_
                  clear hK15; try clear K15
                  refine gc_region ?_
                  first | refine gl_fit hT rfl rfl rfl rfl (by omega) ?_ | refine gl_op rfl rfl rfl (op_pure hT rfl) ?_
                  refine gl_op rfl rfl rfl (op_pure hT rfl) ?_
                  refine gl_nil ?_
                  intro a ha
                  rw [if_neg (by omega)] at hsv
                  refine ⟨i + 1, ss ++ [(outV x.L s).1], wt + wtsV x, _, A89, c89, ha.sub ⟨rfl, rfl, ?_, rfl, rfl, rfl, rfl, trivial⟩, by omega, by omega, by simp [hss], fun s' h => ?_, by omega, hsv, ?_⟩
                  · rw [List.length_append]; rfl
                  · rcases List.mem_append.1 h with h | h
                    · exact hso s' h
                    · rw [List.mem_singleton] at h; rw [h, hoe]; exact sh_ok hszo
                  · rw [List.length_append, List.map_append, List.flatten_append]
                    exact hS.pre 2
          · try simp only [decide_eq_true_eq, decide_eq_false_iff_not, Bool.not_eq_true', Bool.not_eq_false', Int.not_lt, Int.not_le, Nat.not_lt, Nat.not_le, Bool.true_eq, Bool.false_eq, reduceCtorEq] at c55
            refine ga_pass 4 rfl rfl rfl rfl rfl rfl rfl (by kernel_rfl) (fun _ _ _ _ h => h) hK ?_
            refine ga_pass 5 rfl rfl rfl rfl rfl rfl rfl (by kernel_rfl) (fun _ _ _ _ h => h) hK ?_
            refine ga_pass 6 rfl rfl rfl rfl rfl rfl rfl (by kernel_rfl) (fun _ _ _ _ h => h) hK ?_
            refine ga_pass 7 rfl rfl rfl rfl rfl rfl rfl (by kernel_rfl) (fun _ _ _ _ h => h) hK ?_
            refine ga_pass 8 rfl rfl rfl rfl rfl rfl rfl (by kernel_rfl) (fun _ _ _ _ h => h) hK ?_
            refine ga_none 9 rfl rfl rfl rfl rfl rfl (by kernel_rfl) (fun _ _ _ _ h => h) hK ?_
            refine ga_none 10 rfl rfl rfl rfl rfl rfl (by kernel_rfl) (fun _ _ _ _ h => h) hK ?_
            refine ga_none 11 rfl rfl rfl rfl rfl rfl (by kernel_rfl) (fun _ _ _ _ h => h) hK ?_
            refine ga_none 12 rfl rfl rfl rfl rfl rfl (by kernel_rfl) (fun _ _ _ _ h => h) hK ?_
            refine ga_none 13 rfl rfl rfl rfl rfl rfl (by kernel_rfl) (fun _ _ _ _ h => h) hK ?_
            refine ga_none 14 rfl rfl rfl rfl rfl rfl (by kernel_rfl) (fun _ _ _ _ h => h) hK ?_
            refine ga_none 15 rfl rfl rfl rfl rfl rfl (by kernel_rfl) (fun _ _ _ _ h => h) hK ?_
            refine ga_pass 16 rfl rfl rfl rfl rfl rfl rfl (by kernel_rfl) (fun _ _ _ _ h => h) hK ?_
            refine ga_take 17 rfl rfl rfl rfl (by kernel_rfl) (fun _ _ _ _ h => h) hK (fun w1 hS => op_pure hT rfl) ?_
            refine ga_done (by kernel_rfl) ?_
            refine hK23 _ _ ?_
            clear hK23; try clear K23
            refine gc_cond_f rfl ?_
            refine gc_skip ?_
            refine hK22 _ _ ?_
            clear hK22; try clear K22
            refine gc_seq fun K32 hK32 => ?_
            refine gc_seq fun K33 hK33 => ?_
            refine gc_region ?_
            refine gl_op rfl rfl rfl (op_pure hT rfl) ?_
            refine gl_op rfl rfl rfl (op_loadG 2 Tryd.underlying65 rfl el65 hS rfl rfl rfl rfl rfl) ?_
            refine gl_callf rfl rfl rfl rfl Tryd.func87 rfl rfl rfl (weights_calls x _ ((hD x hxm).old hS)) ?_
            rintro _ w74 ⟨rfl, hb74⟩
            refine ⟨_, rfl, ?_⟩
            have hS := hS.grown hb74
            have hwv : 0 ≤ wtsV x ∧ wtsV x ≤ 1000000000000000 := by
              have := (hD x hxm).lW
              have := (hD x hxm).lB
              have := (hD x hxm).lZ
              have := (hD x hxm).lZB
              unfold wtsV
              omega
            refine gl_fit hT rfl rfl rfl rfl (by omega) ?_
            have hne : ¬ (x.L.k = 5 ∧ ((i : Int) < x.L.fr ∨ s2 ≠ s)) := by
              rintro ⟨h5, h⟩
              rcases h with h | h
              · omega
              · first
                  | omega
                  | exact h (sh_eq (by simpa using c69))
            rw [if_neg hne] at hsv
            refine gl_op rfl rfl rfl (op_pure hT rfl) ?_
            refine gl_nil ?_
            refine hK33 _ _ ?_
            clear hK33; try clear K33
            refine gc_seq fun K34 hK34 => ?_
            refine gc_region ?_
            refine gl_op rfl rfl rfl (op_pure hT rfl) ?_
            refine gl_op rfl rfl rfl (op_pure hT rfl) ?_
            refine gl_nil ?_
            refine hK34 _ _ ?_
            clear hK34; try clear K34
            refine gc_cond rfl rfl (fun c77 => ?_) (fun c77 => ?_)
            · try simp only [decide_eq_true_eq, decide_eq_false_iff_not, Bool.not_eq_true', Bool.not_eq_false', Int.not_lt, Int.not_le, Nat.not_lt, Nat.not_le, Bool.true_eq, Bool.false_eq, reduceCtorEq] at c77
              refine gc_seq fun K35 hK35 => ?_
              refine gc_region ?_
              refine gl_op rfl rfl rfl (op_pure hT rfl) ?_
              first | refine gl_fit hT rfl rfl rfl rfl (by omega) ?_ | refine gl_op rfl rfl rfl (op_pure hT rfl) ?_
              refine gl_op rfl rfl rfl (op_pure hT rfl) ?_
              refine gl_op rfl rfl rfl (op_pure hT rfl) ?_
              refine gl_op rfl rfl rfl (op_pure hT rfl) ?_
              refine gl_nil ?_
              refine hK35 _ _ ?_
              clear hK35; try clear K35
              refine gc_ret ?_
              try simp only [x_then_ret, x_block_ret]
              refine gk_ret3 rfl rfl rfl rfl ?_
              rw [if_pos c77] at hsv
              exact ⟨⟨none, 0, 0, by rw [hsv]⟩, hS.below⟩
            · try simp only [decide_eq_true_eq, decide_eq_false_iff_not, Bool.not_eq_true', Bool.not_eq_false', Int.not_lt, Int.not_le, Nat.not_lt, Nat.not_le, Bool.true_eq, Bool.false_eq, reduceCtorEq] at c77
              refine gc_skip ?_
              refine hK32 _ _ ?_
              clear hK32; try clear K32
              refine gc_seq fun K36 hK36 => ?_
              refine gc_region ?_
              refine gl_op rfl rfl rfl (op_loadG 2 Tryd.underlying65 rfl el65 hS rfl rfl rfl rfl rfl) ?_
              refine gl_op rfl rfl rfl (op_loadG 3 Tryd.underlying61 rfl el61 hS rfl rfl rfl rfl rfl) ?_
              refine gl_callf rfl rfl rfl rfl Tryd.func77 rfl rfl rfl (mOut_calls x.L s _ (hD x hxm).okL hsok) ?_
              rintro _ w83 ⟨rfl, hb83⟩
              refine ⟨_, rfl, ?_⟩
              have hS := hS.grown hb83
              refine gl_op rfl rfl rfl (op_pure hT rfl) ?_
              refine gl_op rfl rfl rfl (op_pure hT rfl) ?_
              refine gl_op rfl rfl rfl (op_pure hT rfl) ?_
              refine gl_alloc el61 hS rfl rfl rfl rfl fun g13 w13 hS => ?_
              refine gl_storeM 4 hS el61 rfl rfl rfl rfl rfl rfl rfl rfl rfl fun wmodel_go_223 hS => ?_
              refine gl_op rfl rfl rfl (op_pure hT rfl) ?_
              refine gl_nil ?_
              refine hK36 _ _ ?_
              clear hK36; try clear K36
              refine gc_seq fun K37 hK37 => ?_
              refine gc_region ?_
              refine gl_op rfl rfl rfl (op_pure hT rfl) ?_
              refine gl_op rfl rfl rfl (op_loadG 4 Tryd.underlying61 rfl el61 hS rfl rfl rfl rfl rfl) ?_
              have hS : St w.heap.size w _ [.blk g1 69 (netC s0 A xs.length c), .row A7 c7 61 3 ss.length (ss.map shC).flatten, .blk g10 65 (lyC x.L), .blk g11 61 (shC s), .blk g13 61 (shC (outV x.L s).1)] := hS
              refine gl_litS hT hS el61 rfl rfl rfl rfl rfl rfl rfl (by decide) fun g88 w88 hS => ?_
              refine gl_append 1 hT hS el61 (hS.rd (i := 5) rfl) rfl rfl rfl rfl rfl rfl rfl rfl rfl (by omega) (by omega) fun A89 c89 w89 hS => ?_
              have hS := hS.pre 5
              refine gl_op rfl rfl rfl (op_pure hT rfl) ?_
              refine gl_nil ?_
              refine hK37 _ _ ?_
              clear hK37; try clear K37
              refine gc_region ?_
              refine gl_op rfl rfl rfl (op_loadG 4 Tryd.underlying61 rfl el61 hS rfl rfl rfl rfl rfl) ?_
              refine gl_callf rfl rfl rfl rfl Tryd.func52 rfl rfl rfl (mSize_calls (outV x.L s).1 _ (by rw [hoe]; exact sh_ok hszo)) ?_
              rintro _ w92 ⟨rfl, hb92⟩
              refine ⟨_, rfl, ?_⟩
              have hS := hS.grown hb92
              refine gl_op rfl rfl rfl (op_pure hT rfl) ?_
              refine gl_op rfl rfl rfl (op_pure hT rfl) ?_
              refine gl_op rfl rfl rfl (op_pure hT rfl) ?_
              refine gl_op rfl rfl rfl (op_pure hT rfl) ?_
              refine gl_nil ?_
              refine hK15 _ _ ?_
              clear hK15; try clear K15
              refine gc_region ?_
              first | refine gl_fit hT rfl rfl rfl rfl (by omega) ?_ | refine gl_op rfl rfl rfl (op_pure hT rfl) ?_
              refine gl_op rfl rfl rfl (op_pure hT rfl) ?_
              refine gl_nil ?_
              intro a ha
              rw [if_neg (by omega)] at hsv
              refine ⟨i + 1, ss ++ [(outV x.L s).1], wt + wtsV x, _, A89, c89, ha.sub ⟨rfl, rfl, ?_, rfl, rfl, rfl, rfl, trivial⟩, by omega, by omega, by simp [hss], fun s' h => ?_, by omega, hsv, ?_⟩
              · rw [List.length_append]; rfl
              · rcases List.mem_append.1 h with h | h
                · exact hso s' h
                · rw [List.mem_singleton] at h; rw [h, hoe]; exact sh_ok hszo
              · rw [List.length_append, List.map_append, List.flatten_append]
                exact hS.pre 2
      · try simp only [decide_eq_true_eq, decide_eq_false_iff_not, Bool.not_eq_true', Bool.not_eq_false', Int.not_lt, Int.not_le, Nat.not_lt, Nat.not_le, Bool.true_eq, Bool.false_eq, reduceCtorEq] at c36
        have hie : xs.drop i = [] := List.drop_eq_nil_of_le (by omega)
        rw [hie] at hsv
        have hsv : shapesV s0 xs = (0, 0) := hsv
        refine gc_exit ?_
        refine hK11 _ _ ?_
        clear hK11; try clear K11
        refine gc_seq fun K38 hK38 => ?_
        refine gc_seq fun K39 hK39 => ?_
        refine gc_region ?_
        refine gl_op rfl rfl rfl (op_fieldB 4 rfl Tryd.underlying69 rfl el67 rfl rfl) ?_
        refine gl_op rfl rfl rfl (op_loadB 0 hT hS rfl rfl rfl rfl rfl rfl) ?_
        refine gl_op rfl rfl rfl (op_pure hT rfl) ?_
        refine gl_callf rfl rfl rfl rfl Tryd.func88 rfl rfl rfl (names0_calls sz _) ?_
        rintro _ w99 ⟨rfl, hb99⟩
        refine ⟨_, rfl, ?_⟩
        have hS := hS.grown hb99
        refine gl_op rfl rfl rfl (op_pure hT rfl) ?_
        refine gl_nil ?_
        refine hK39 _ _ ?_
        clear hK39; try clear K39
        refine gc_seq fun K40 hK40 => ?_
        refine gc_region ?_
        refine gl_op rfl rfl rfl (op_pure hT rfl) ?_
        refine gl_op rfl rfl rfl (op_pure hT rfl) ?_
        refine gl_nil ?_
        refine hK40 _ _ ?_
        clear hK40; try clear K40
        refine gc_cond_f rfl ?_
        refine gc_skip ?_
        refine hK38 _ _ ?_
        clear hK38; try clear K38
        refine gc_seq fun K41 hK41 => ?_
        refine gc_region ?_
        refine gl_op rfl rfl rfl (op_pure hT rfl) ?_
        refine gl_op rfl rfl rfl (op_pure hT rfl) ?_
        refine gl_op rfl rfl rfl (op_pure hT rfl) ?_
        refine gl_op rfl rfl rfl (op_pure hT rfl) ?_
        refine gl_nil ?_
        refine hK41 _ _ ?_
        clear hK41; try clear K41
        refine gc_ret ?_
        try simp only [x_then_ret, x_block_ret]
        refine gk_ret3 rfl rfl rfl rfl ?_
        exact ⟨⟨A7, ss.length, c7, by rw [hsv]⟩, hS.below⟩
theorem check_calls (s0 : Sh) (A : Option Addr) (c : Nat) (xs : List Lx) (w : World) (hs : s0.ok) {ok : Nat → Prop} (hrd : RdS w ok lxC 14 A xs) (hD : ∀ x ∈ xs, LyM w ok x) :
    Calls Tryd.prog 44 ⟨[.agg ⟨netC s0 A xs.length c⟩]⟩ w fun e w' => e = .returned (.tuple #[.int .i64 (shapesV s0 xs).1, .int .i64 (shapesV s0 xs).2]) ∧ Below w.heap.size w w' := by
  refine gc_enter (N := 15) Tryd.func44 rfl rfl rfl [(0, _)] rfl ?_
  have hS := St.start w
  refine gc_seq fun K1 hK1 => ?_
  refine gc_region ?_
  refine gl_box hS rfl rfl rfl rfl rfl fun g1 w1 hS => ?_
  refine gl_op rfl rfl rfl (op_pure hT rfl) ?_
  refine gl_op rfl rfl rfl (op_pure hT rfl) ?_
  refine gl_nil ?_
  refine hK1 _ _ ?_
  clear hK1; try clear K1
  refine gc_seq fun K2 hK2 => ?_
  refine gc_region ?_
  refine gl_op rfl rfl rfl (op_loadG 0 Tryd.underlying69 rfl el69 hS rfl rfl rfl rfl rfl) ?_
  refine gl_callf rfl rfl rfl rfl Tryd.func73 rfl rfl rfl (shapes_calls s0 A c xs _ hs (hrd.old (by decide) hS) fun x hx => (hD x hx).old hS) ?_
  rintro _ w9 ⟨⟨A9, n9, c9, rfl⟩, hb9⟩
  refine ⟨_, rfl, ?_⟩
  have hS := hS.grown hb9
  refine gl_op rfl rfl rfl (op_pure hT rfl) ?_
  refine gl_op rfl rfl rfl (op_pure hT rfl) ?_
  refine gl_op rfl rfl rfl (op_pure hT rfl) ?_
  refine gl_op rfl rfl rfl (op_pure hT rfl) ?_
  refine gl_op rfl rfl rfl (op_pure hT rfl) ?_
  refine gl_op rfl rfl rfl (op_pure hT rfl) ?_
  refine gl_op rfl rfl rfl (op_pure hT rfl) ?_
  refine gl_nil ?_
  refine hK2 _ _ ?_
  clear hK2; try clear K2
  refine gc_seq fun K3 hK3 => ?_
  refine gc_region ?_
  refine gl_op rfl rfl rfl (op_pure hT rfl) ?_
  refine gl_op rfl rfl rfl (op_pure hT rfl) ?_
  refine gl_op rfl rfl rfl (op_pure hT rfl) ?_
  refine gl_op rfl rfl rfl (op_pure hT rfl) ?_
  refine gl_nil ?_
  refine hK3 _ _ ?_
  clear hK3; try clear K3
  refine gc_ret ?_
  try simp only [x_then_ret, x_block_ret]
  refine gk_ret2 rfl rfl rfl ?_
  exact ⟨rfl, hS.below⟩
end Go.Proofs.YtnomlloaahoceaaDoor

