/- Contracts of functions that CodeProps reaches, and words to say them. No condition. -/
import Derived.Test.YtnomlloaahoceaaDoorZ30
/- Contracts of package code: the first example's network, read whole; and no bytes. No condition. -/
namespace Go.Proofs.YtnomlloaahoceaaDoor
open Go.RowKit
set_option linter.unusedVariables false
set_option linter.unusedSimpArgs false
@[reducible] def dnD (g3 g4 : Nat) : List Deferred := [{ target := .fn (.func 48) #[.pointer (some ⟨g3, 0, none⟩), .pointer (some ⟨g4, 0, none⟩)], args := #[] }]
@[reducible] def zN : List Value := [.int .i64 0, .int .i64 0, .int .i64 0, .slice none 0 0, .slice none 0 0]
@[reducible] def dnL (g2 g3 g4 : Nat) (zn : List Value) (x y : Int) : List It := [.blk g2 69 zn, .blk g3 34 [.int .i64 x], .blk g4 3 [.int .i64 y]]
def DnQ (R : Ending → World → Prop) : Exit → Act → World → Prop
  | .panic _, _, _ => False
  | ex, a, w => bodyPostD Tryd.prog Tryd.f27 R ex a w
theorem dnQ_to {R : Ending → World → Prop} : ∀ ex a w, DnQ R ex a w → bodyPostD Tryd.prog Tryd.f27 R ex a w
  | .normal, a, w, h => h
  | .ret, a, w, h => h
  | .exit i, a, w, h => h
  | .goto l, a, w, h => h
  | .outgrown, a, w, h => h
  | .panic ch, a, w, h => h.elim
theorem dn_res {w' : World} {a : Act} {B : Nat} {w0 : World} {g2 g3 g4 : Nat} {zn : List Value} {x y : Int} {it : It} {L : List It} {N : Nt} (hz : zn.length = 5) (h3 : Fr N a (dpE g2 g3 g4)) (hS : St B w0 w' (it :: dnL g2 g3 g4 zn x y ++ L)) :
    (results Tryd.f27 a.tmps).run Tryd.prog w' = .ok (.tuple #[.agg ⟨zn⟩, .int .i64 x, .int .i64 y]) w' := by
  have e1 : resV Tryd.prog w' (dpE g2 g3 g4) (.cell 2 69) (.agg ⟨zn⟩) := ⟨_, rfl, run_loadVarB 1 Tryd.underlying69 rfl el69 hS rfl (by rw [List.drop_zero, List.take_of_length_le (by omega)]) hz⟩
  have e2 : resV Tryd.prog w' (dpE g2 g3 g4) (.cell 3 34) (.int .i64 x) := ⟨_, rfl, run_loadVar1 2 hT hS rfl rfl rfl rfl⟩
  have e3 : resV Tryd.prog w' (dpE g2 g3 g4) (.cell 4 3) (.int .i64 y) := ⟨_, rfl, run_loadVar1 3 hT hS rfl rfl rfl rfl⟩
  rw [results_eq, show Tryd.f27.results = #[.cell 2 69, .cell 3 34, .cell 4 3] from rfl]
  simp [run_resR h3 e1, run_resR h3 e2, run_resR h3 e3]
theorem gk_dnret {R : Ending → World → Prop} {B : Nat} {w0 w : World} {e : Env} {g2 g3 g4 : Nat} {zn : List Value} {x y : Int} {it : It} {L : List It} (hz : zn.length = 5) (he : subEnv e (dpE g2 g3 g4)) (hS : St B w0 w (it :: dnL g2 g3 g4 zn x y ++ L))
    (h : R (.returned (.tuple #[.agg ⟨zn⟩, .int .i64 x, .int .i64 y])) w) :
    GK ⟨91, dnD g3 g4⟩ e (DnQ R .ret) w := fun a ha => by
  show Leaves _ _ a.tmps R a.defers .returning w
  have h3 := ha.sub he
  rw [ha.defers]
  refine leaves_cons (by simp) (by simp [go_sem]) ((catchN_idle g3 g4 w).mono ?_)
  rintro en u' w' ⟨rfl, rfl, rfl⟩
  exact ⟨_, dn_res hz h3 hS, h⟩
theorem gk_dnpan {R : Ending → World → Prop} {B : Nat} {w0 w : World} {e : Env} {g2 g3 g4 : Nat} {x y : Int} {it : It} {L : List It} (he : subEnv e (dpE g2 g3 g4)) (hS : St B w0 w (it :: dnL g2 g3 g4 zN 0 0 ++ L))
    (h : ∀ w' L', St B w0 w' L' → R (.returned (.tuple #[.agg ⟨zN⟩, .int .i64 x, .int .i64 y])) w') :
    GK ⟨91, dnD g3 g4⟩ e (bodyPostD Tryd.prog Tryd.f27 R (.panic (pn x y))) w := fun a ha => by
  show Leaves _ _ a.tmps R a.defers (.panicking (pn x y)) w
  have h3 := ha.sub he
  rw [ha.defers]
  have hp : (it :: dnL g2 g3 g4 zN 0 0 ++ L).Perm (.blk g3 34 [.int .i64 0] :: .blk g4 3 [.int .i64 0] :: .blk g2 69 zN :: it :: L) := by
    show (it :: ([_, _, _] ++ L)).Perm (([_, _, _] : List It) ++ it :: L)
    exact (List.Perm.cons it ((p_cab _ _ _).append_right L)).trans (List.perm_middle).symm
  refine leaves_cons (by simp) (by simp [go_sem]) ((catchN_calls g3 g4 x y 0 0 [] _ w (hS.permute hp)).mono ?_)
  rintro en u' w' ⟨rfl, rfl, hS⟩
  refine ⟨_, dn_res (it := it) (L := L) rfl h3 (hS.permute ?_), h w' _ hS⟩
  show ((([_, _, _] : List It) ++ it :: L)).Perm (it :: ([_, _, _] ++ L))
  exact (List.perm_middle).trans (List.Perm.cons it ((p_bca _ _ _).append_right L))
set_option maxHeartbeats 4000000 in
set_option maxRecDepth 100000 in
theorem decodeNet0_calls (w : World) : Calls Tryd.prog 27 ⟨[.slice none 0 0]⟩ w fun e w' => e = .returned (.tuple #[.agg ⟨zN⟩, .int .i64 80, .int .i64 0]) ∧ Below w.heap.size w w' := by
  obtain ⟨A, hA⟩ : ∃ A : Option Addr, A = none := ⟨_, rfl⟩
  obtain ⟨c, hc⟩ : ∃ c : Nat, c = 0 := ⟨_, rfl⟩
  have hr : Rdb w.heap.size w All none ([] : List UInt8) := fun hS => RdE.nil _ none
  refine gc_enterD (N := 91) Tryd.func27 rfl rfl rfl [(0, _)] rfl ?_
  have hS := St.start w
  refine gc_seq fun K1 hK1 => ?_
  refine gc_region ?_
  refine gl_alloc el69 hS rfl rfl rfl rfl fun g2 w2 hS => ?_
  refine gl_alloc el34 hS rfl rfl rfl rfl fun g3 w3 hS => ?_
  refine gl_alloc el3 hS rfl rfl rfl rfl fun g4 w4 hS => ?_
  refine gl_nil ?_
  refine hK1 _ _ ?_
  clear hK1; try clear K1
  refine gc_cut (fun a w' => ∃ g2 g3 g4, Fr ⟨91, dnD g3 g4⟩ a [(0, .slice none 0 0), (2, .pointer (some ⟨g2, 0, none⟩)), (3, .pointer (some ⟨g3, 0, none⟩)), (4, .pointer (some ⟨g4, 0, none⟩))] ∧ St w.heap.size w w' [.blk g2 69 zN, .blk g3 34 [.int .i64 0], .blk g4 3 [.int .i64 0]]) ?_ ?_
  · skip
    refine gc_region ?_
    refine gl_op rfl rfl rfl (op_mkFunc0 rfl rfl) ?_
    refine gl_defer rfl rfl rfl rfl ?_
    refine gl_nil ?_
    intro a ha
    exact ⟨g2, g3, g4, ha.sub ⟨rfl, rfl, rfl, rfl, trivial⟩, hS⟩
  rintro a w1 ⟨g2, g3, g4, hF, hS⟩
  refine gc_of hF ?_
  clear hF
  refine gc_seq fun K2 hK2 => ?_
  refine gc_region ?_
  refine gl_op rfl rfl rfl (op_pure hT rfl) ?_
  refine gl_op rfl rfl rfl (op_buildG rfl plan54 rfl rfl) ?_
  refine gl_op rfl rfl rfl (op_buildG rfl plan108 rfl rfl) ?_
  refine gl_box hS rfl rfl rfl rfl rfl fun g14 w14 hS => ?_
  refine gl_op rfl rfl rfl (op_pure hT rfl) ?_
  refine gl_nil ?_
  refine hK2 _ _ ?_
  clear hK2; try clear K2
  refine gc_seq fun K3 hK3 => ?_
  refine gc_region ?_
  refine gl_op rfl rfl rfl (op_pure hT rfl) ?_
  refine gl_op rfl rfl rfl (op_pure hT rfl) ?_
  refine gl_op rfl rfl rfl (op_fieldB 0 rfl Tryd.underlying108 rfl el54 rfl rfl) ?_
  have hS := hS.permute (List.perm_append_comm (l₁ := [_, _, _]) (l₂ := [_]))
  refine gl_callP rfl rfl rfl rfl Tryd.func50 rfl rfl rfl (cHead_calls g14 _ none 0 0 [] [65, 77, 66, 78] 0 _ _ _ hS hr rfl (Nat.le_refl _) (by decide)) ?_
  rintro _ w18 (⟨x, y, hx, rfl, hS⟩ | ⟨hx, _⟩)
  · refine .inr ⟨_, rfl, ?_⟩
    try simp only [x_then_panic, x_block_panic]
    obtain ⟨rfl, rfl⟩ : 80 = x ∧ 0 = y := by
      have h0 : hdV [65, 77, 66, 78] [] = some (80, 0) := rfl
      rw [h0] at hx
      injection hx with hx
      injection hx with h1 h2
      exact ⟨h1, h2⟩
    exact gk_dnpan (L := []) ⟨rfl, rfl, rfl, trivial⟩ hS fun w' L' hS => ⟨rfl, hS.below⟩
  · cases hx

set_option maxHeartbeats 4000000 in
set_option maxRecDepth 100000 in
theorem decodeNetEx_calls (A : Option Addr) (c : Nat) (w : World) {ok : Nat → Prop} (h1 : RdE w ok uB A exB) (hc : 23 ≤ c) : Calls Tryd.prog 27 ⟨[.slice A 23 c]⟩ w fun e w' => ∃ AL cL W B', e = .returned (.tuple #[.agg ⟨netC ⟨1, 1, 1⟩ AL 1 cL⟩, .int .i64 0, .int .i64 0]) ∧ St w.heap.size w w' [.row AL cL 65 14 1 (lyC ⟨8, 0, 0, 0, 0, 0, 0, 0, 0, exA, W, B', (none, 0, 0), (none, 0, 0)⟩)] := by
  have hr : Rdb w.heap.size w ok A exB := fun hS => h1.old hS
  refine gc_enterD (N := 91) Tryd.func27 rfl rfl rfl [(0, _)] rfl ?_
  have hS := St.start w
  refine gc_conseq dnQ_to ?_
  refine gc_seq fun K1 hK1 => ?_
  refine gc_region ?_
  refine gl_alloc el69 hS rfl rfl rfl rfl fun g2 w2 hS => ?_
  refine gl_alloc el34 hS rfl rfl rfl rfl fun g3 w3 hS => ?_
  refine gl_alloc el3 hS rfl rfl rfl rfl fun g4 w4 hS => ?_
  refine gl_nil ?_
  refine hK1 _ _ ?_
  clear hK1; try clear K1
  refine gc_cut (fun a w' => ∃ g2 g3 g4, Fr ⟨91, dnD g3 g4⟩ a [(0, .slice A 23 c), (2, .pointer (some ⟨g2, 0, none⟩)), (3, .pointer (some ⟨g3, 0, none⟩)), (4, .pointer (some ⟨g4, 0, none⟩))] ∧ St w.heap.size w w' [.blk g2 69 zN, .blk g3 34 [.int .i64 0], .blk g4 3 [.int .i64 0]]) ?_ ?_
  · skip
    refine gc_region ?_
    refine gl_op rfl rfl rfl (op_mkFunc0 rfl rfl) ?_
    refine gl_defer rfl rfl rfl rfl ?_
    refine gl_nil ?_
    intro a ha
    exact ⟨g2, g3, g4, ha.sub ⟨rfl, rfl, rfl, rfl, trivial⟩, hS⟩
  rintro a w1 ⟨g2, g3, g4, hF, hS⟩
  refine gc_of hF ?_
  clear hF
  refine gc_cut (fun a w' => ∃ g2 g3 g4 gc, Fr ⟨91, dnD g3 g4⟩ a [(2, .pointer (some ⟨g2, 0, none⟩)), (3, .pointer (some ⟨g3, 0, none⟩)), (4, .pointer (some ⟨g4, 0, none⟩)), (5, .pointer (some ⟨gc, 0, none⟩))] ∧ St w.heap.size w w' [.blk gc 108 (cuC A 23 c 0 [.int .i64 0, .int .i64 0, .int .i64 0, .slice none 0 0, .slice none 0 0, .slice none 0 0, .int .i64 0]), .blk g2 69 zN, .blk g3 34 [.int .i64 0], .blk g4 3 [.int .i64 0]]) ?_ ?_
  · skip
    refine gc_region ?_
    refine gl_op rfl rfl rfl (op_pure hT rfl) ?_
    refine gl_op rfl rfl rfl (op_buildG rfl plan54 rfl rfl) ?_
    refine gl_op rfl rfl rfl (op_buildG rfl plan108 rfl rfl) ?_
    refine gl_box hS rfl rfl rfl rfl rfl fun g14 w14 hS => ?_
    refine gl_op rfl rfl rfl (op_pure hT rfl) ?_
    refine gl_nil ?_
    intro a ha
    exact ⟨g2, g3, g4, g14, ha.sub ⟨rfl, rfl, rfl, rfl, trivial⟩, hS.permute (List.perm_append_comm (l₁ := [_, _, _]) (l₂ := [_]))⟩
  rintro a w1 ⟨g2, g3, g4, gc, hF, hS⟩
  refine gc_of hF ?_
  clear hF
  refine gc_seq fun K2 hK2 => ?_
  refine gc_region ?_
  refine gl_op rfl rfl rfl (op_pure hT rfl) ?_
  refine gl_op rfl rfl rfl (op_pure hT rfl) ?_
  refine gl_op rfl rfl rfl (op_fieldB 0 rfl Tryd.underlying108 rfl el54 rfl rfl) ?_
  refine gl_callP rfl rfl rfl rfl Tryd.func50 rfl rfl rfl (cHead_calls gc _ A 23 c exB [65, 77, 66, 78] 0 _ _ _ hS hr rfl hc (by show 23 ≤ 4611686018427387904; decide)) ?_
  rintro _ w18 (⟨x, y, hx, rfl, hS⟩ | ⟨hx, rfl, hS⟩)
  · rw [show hdV [65, 77, 66, 78] exB = none from ex_h _] at hx; cases hx
  refine .inl ⟨_, rfl, ?_⟩
  refine gl_nil ?_
  refine hK2 _ _ ?_
  clear hK2; try clear K2
  refine gc_seq fun K3 hK3 => ?_
  refine gc_anyS (hS.blank 0) (by kernel_rfl) rfl fun nq4 hK => ?_
  have hS := hS.dr nq4
  refine ga_take 0 rfl rfl rfl rfl (by kernel_rfl) (fun _ _ _ _ h => h) hK (fun w1 hS => op_pure hT rfl) ?_
  refine ga_take 1 rfl rfl rfl rfl (by kernel_rfl) (fun _ _ _ _ h => h) hK (fun w1 hS => op_pure hT rfl) ?_
  refine ga_take 2 rfl rfl rfl rfl (by kernel_rfl) (fun _ _ _ _ h => h) hK (fun w1 hS => op_pure hT rfl) ?_
  refine ga_take 3 rfl rfl rfl rfl (by kernel_rfl) (fun _ _ _ _ h => h) hK (fun w1 hS => op_fieldB 0 rfl Tryd.underlying108 rfl el54 rfl rfl) ?_
  refine ga_take 5 rfl rfl rfl rfl (by kernel_rfl) (fun _ _ _ _ h => h) hK (fun w1 hS => op_pure hT rfl) ?_
  refine ga_take 6 rfl rfl rfl rfl (by kernel_rfl) (fun _ _ _ _ h => h) hK (fun w1 hS => op_pure hT rfl) ?_
  refine ga_take 7 rfl rfl rfl rfl (by kernel_rfl) (fun _ _ _ _ h => h) hK (fun w1 hS => op_fieldB 0 rfl Tryd.underlying108 rfl el54 rfl rfl) ?_
  refine ga_take 9 rfl rfl rfl rfl (by kernel_rfl) (fun _ _ _ _ h => h) hK (fun w1 hS => op_pure hT rfl) ?_
  refine ga_take 10 rfl rfl rfl rfl (by kernel_rfl) (fun _ _ _ _ h => h) hK (fun w1 hS => op_pure hT rfl) ?_
  refine ga_take 11 rfl rfl rfl rfl (by kernel_rfl) (fun _ _ _ _ h => h) hK (fun w1 hS => op_fieldB 0 rfl Tryd.underlying108 rfl el54 rfl rfl) ?_
  refine ga_one 4 (by kernel_rfl) rfl ?_
  refine gl_callP rfl rfl rfl rfl Tryd.func51 rfl rfl rfl (cUint_calls gc _ A 23 c exB 5 _ _ _ hS hr rfl (ex_le _)) ?_
  rintro _ w23 (⟨x, y, hx, rfl, hS⟩ | ⟨k8, a1, hx, rfl, hS⟩)
  · rw [show rU exB 5 = .ok (1, 6) from ex_5 _] at hx; cases hx
  rw [show rU exB 5 = .ok (1, 6) from ex_5 _] at hx
  obtain ⟨rfl, rfl⟩ : 1 = k8 ∧ 6 = a1 := by injection hx with hx; injection hx with h1 h2; exact ⟨h1, h2⟩
  refine .inl ⟨_, rfl, ?_⟩
  refine gl_nil ?_
  refine ga_next ((hS.blank 0).pre 4) fun hK => ?_
  refine ga_one 8 (by kernel_rfl) rfl ?_
  refine gl_callP rfl rfl rfl rfl Tryd.func51 rfl rfl rfl (cUint_calls gc _ A 23 c exB 6 _ _ _ hS hr rfl (ex_le _)) ?_
  rintro _ w27 (⟨x, y, hx, rfl, hS⟩ | ⟨k8, a1, hx, rfl, hS⟩)
  · rw [show rU exB 6 = .ok (1, 7) from ex_6 _] at hx; cases hx
  rw [show rU exB 6 = .ok (1, 7) from ex_6 _] at hx
  obtain ⟨rfl, rfl⟩ : 1 = k8 ∧ 7 = a1 := by injection hx with hx; injection hx with h1 h2; exact ⟨h1, h2⟩
  refine .inl ⟨_, rfl, ?_⟩
  refine gl_nil ?_
  refine ga_next ((hS.blank 0).pre 4) fun hK => ?_
  refine ga_one 12 (by kernel_rfl) rfl ?_
  refine gl_callP rfl rfl rfl rfl Tryd.func51 rfl rfl rfl (cUint_calls gc _ A 23 c exB 7 _ _ _ hS hr rfl (ex_le _)) ?_
  rintro _ w31 (⟨x, y, hx, rfl, hS⟩ | ⟨k8, a1, hx, rfl, hS⟩)
  · rw [show rU exB 7 = .ok (1, 8) from ex_7 _] at hx; cases hx
  rw [show rU exB 7 = .ok (1, 8) from ex_7 _] at hx
  obtain ⟨rfl, rfl⟩ : 1 = k8 ∧ 8 = a1 := by injection hx with hx; injection hx with h1 h2; exact ⟨h1, h2⟩
  refine .inl ⟨_, rfl, ?_⟩
  refine gl_nil ?_
  refine ga_next ((hS.blank 0).pre 4) fun hK => ?_
  refine ga_take 13 rfl rfl rfl rfl (by kernel_rfl) (fun _ _ _ _ h => h) hK (fun w1 hS => op_buildG rfl plan61 rfl rfl) ?_
  refine ga_take 14 rfl rfl rfl rfl (by kernel_rfl) (fun _ _ _ _ h => h) hK (fun w1 hS => op_pure hT rfl) ?_
  refine ga_take 15 rfl rfl rfl rfl (by kernel_rfl) (fun _ _ _ _ h => h) hK (fun w1 hS => op_fieldB 2 rfl Tryd.underlying108 rfl el69 rfl rfl) ?_
  refine ga_take 16 rfl rfl rfl rfl (by kernel_rfl) (fun _ _ _ _ h => h) hK (fun w1 hS => op_fieldB 2 rfl Tryd.underlying69 rfl el61 rfl rfl) ?_
  refine ga_one 17 (by kernel_rfl) rfl ?_
  refine gl_storeM 0 hS el61 rfl rfl rfl rfl rfl rfl rfl rfl rfl fun wcode_go_246 hS => ?_
  refine gl_nil ?_
  refine ga_next ((hS.blank 0).pre 4) fun hK => ?_
  refine ga_done (by kernel_rfl) ?_
  refine hK3 _ _ ?_
  clear hK3; try clear K3
  refine gc_seq fun K4 hK4 => ?_
  refine gc_region ?_
  refine gl_op rfl rfl rfl (op_pure hT rfl) ?_
  refine gl_op rfl rfl rfl (op_pure hT rfl) ?_
  refine gl_op rfl rfl rfl (op_fieldB 2 rfl Tryd.underlying108 rfl el69 rfl rfl) ?_
  refine gl_op rfl rfl rfl (op_fieldB 2 rfl Tryd.underlying69 rfl el61 rfl rfl) ?_
  refine gl_op rfl rfl rfl (op_loadG 0 Tryd.underlying61 rfl el61 hS rfl rfl rfl rfl rfl) ?_
  refine gl_callf rfl rfl rfl rfl Tryd.func52 rfl rfl rfl (mSize_calls ⟨1, 1, 1⟩ _ ⟨by decide, by decide, by decide⟩) ?_
  rintro _ w42 ⟨rfl, hb42⟩
  refine ⟨_, rfl, ?_⟩
  have hS := hS.grown hb42
  rw [exSize]
  refine gl_op rfl rfl rfl (op_pure hT rfl) ?_
  refine gl_op rfl rfl rfl (op_pure hT rfl) ?_
  refine gl_op rfl rfl rfl (op_pure hT rfl) ?_
  refine gl_op rfl rfl rfl (op_pure hT rfl) ?_
  refine gl_op rfl rfl rfl (op_pure hT rfl) ?_
  refine gl_nil ?_
  refine hK4 _ _ ?_
  clear hK4; try clear K4
  refine gc_seq fun K5 hK5 => ?_
  refine gc_region ?_
  refine gl_op rfl rfl rfl (op_pure hT rfl) ?_
  refine gl_op rfl rfl rfl (op_pure hT rfl) ?_
  refine gl_op rfl rfl rfl (op_fieldB 0 rfl Tryd.underlying108 rfl el54 rfl rfl) ?_
  refine gl_op rfl rfl rfl (op_pure hT rfl) ?_
  refine gl_callP rfl rfl rfl rfl Tryd.func53 rfl rfl rfl (check_calls8 _ 0 5 _) ?_
  rintro _ w49 (⟨hx, rfl, hb49⟩ | ⟨hx, rfl, hb49⟩)
  · exact absurd rfl hx
  refine .inl ⟨_, rfl, ?_⟩
  have hS := hS.eqv hb49
  refine gl_nil ?_
  refine hK5 _ _ ?_
  clear hK5; try clear K5
  refine gc_cut (fun a w' => ∃ As cs, Fr ⟨91, dnD g3 g4⟩ a [(2, .pointer (some ⟨g2, 0, none⟩)), (3, .pointer (some ⟨g3, 0, none⟩)), (4, .pointer (some ⟨g4, 0, none⟩)), (5, .pointer (some ⟨gc, 0, none⟩))] ∧ St w.heap.size w w' [.blk gc 108 (nrC A c (8) (.slice none 0 0) (.slice As 1 cs)), .row As cs 61 3 1 (shC ⟨1, 1, 1⟩), .blk g2 69 zN, .blk g3 34 [.int .i64 0], .blk g4 3 [.int .i64 0]]) ?_ ?_
  · skip
    refine gc_region ?_
    refine gl_op rfl rfl rfl (op_pure hT rfl) ?_
    refine gl_op rfl rfl rfl (op_pure hT rfl) ?_
    refine gl_op rfl rfl rfl (op_pure hT rfl) ?_
    refine gl_op rfl rfl rfl (op_fieldB 2 rfl Tryd.underlying108 rfl el69 rfl rfl) ?_
    refine gl_op rfl rfl rfl (op_fieldB 2 rfl Tryd.underlying69 rfl el61 rfl rfl) ?_
    refine gl_op rfl rfl rfl (op_loadG 0 Tryd.underlying61 rfl el61 hS rfl rfl rfl rfl rfl) ?_
    refine gl_litS hT hS el61 rfl rfl rfl rfl rfl rfl rfl (by decide) fun g56 w56 hS => ?_
    refine gl_op rfl rfl rfl (op_pure hT rfl) ?_
    refine gl_op rfl rfl rfl (op_fieldB 7 rfl Tryd.underlying108 rfl el106 rfl rfl) ?_
    refine gl_store 0 hS el106.cellsOf.1 el106.cellsOf.2 rfl rfl rfl rfl rfl rfl rfl rfl fun wcode_go_249 hS => ?_
    refine gl_nil ?_
    intro a ha
    exact ⟨_, _, ha.sub ⟨rfl, rfl, rfl, rfl, trivial⟩, hS.permute (.cons _ (List.perm_append_comm (l₁ := [_, _, _]) (l₂ := [_])))⟩
  rintro a w1 ⟨As, cs, hF, hS⟩
  refine gc_of hF ?_
  clear hF
  refine gc_seq fun K6 hK6 => ?_
  refine gc_region ?_
  refine gl_op rfl rfl rfl (op_pure hT rfl) ?_
  refine gl_op rfl rfl rfl (op_pure hT rfl) ?_
  refine gl_op rfl rfl rfl (op_fieldB 0 rfl Tryd.underlying108 rfl el54 rfl rfl) ?_
  refine gl_op rfl rfl rfl (op_fieldB 1 rfl Tryd.underlying54 rfl el3 rfl rfl) ?_
  refine gl_op rfl rfl rfl (op_loadB 0 hT hS rfl rfl rfl rfl rfl rfl) ?_
  refine gl_op rfl rfl rfl (op_pure hT rfl) ?_
  refine gl_nil ?_
  refine hK6 _ _ ?_
  clear hK6; try clear K6
  refine gc_seq fun K7 hK7 => ?_
  refine gc_region ?_
  refine gl_op rfl rfl rfl (op_pure hT rfl) ?_
  refine gl_op rfl rfl rfl (op_pure hT rfl) ?_
  refine gl_op rfl rfl rfl (op_fieldB 0 rfl Tryd.underlying108 rfl el54 rfl rfl) ?_
  refine gl_callP rfl rfl rfl rfl Tryd.func51 rfl rfl rfl (cUint_calls gc _ A 23 c exB 8 _ _ _ hS hr rfl (ex_le _)) ?_
  rintro _ w67 (⟨x, y, hx, rfl, hS⟩ | ⟨k8, a1, hx, rfl, hS⟩)
  · rw [show rU exB 8 = .ok (1, 9) from ex_8 _] at hx; cases hx
  rw [show rU exB 8 = .ok (1, 9) from ex_8 _] at hx
  obtain ⟨rfl, rfl⟩ : 1 = k8 ∧ 9 = a1 := by injection hx with hx; injection hx with h1 h2; exact ⟨h1, h2⟩
  refine .inl ⟨_, rfl, ?_⟩
  refine gl_op rfl rfl rfl (op_pure hT rfl) ?_
  refine gl_nil ?_
  refine hK7 _ _ ?_
  clear hK7; try clear K7
  refine gc_seq fun K8 hK8 => ?_
  refine gc_seq fun K9 hK9 => ?_
  refine gc_region ?_
  refine gl_op rfl rfl rfl (op_pure hT rfl) ?_
  refine gl_op rfl rfl rfl (op_pure hT rfl) ?_
  refine gl_nil ?_
  refine hK9 _ _ ?_
  clear hK9; try clear K9
  refine gc_cond_f rfl ?_
  refine gc_skip ?_
  refine hK8 _ _ ?_
  clear hK8; try clear K8
  refine gc_seq fun K10 hK10 => ?_
  refine gc_seq fun K11 hK11 => ?_
  refine gc_region ?_
  refine gl_op rfl rfl rfl (op_pure hT rfl) ?_
  refine gl_op rfl rfl rfl (op_pure hT rfl) ?_
  refine gl_nil ?_
  refine hK11 _ _ ?_
  clear hK11; try clear K11
  refine gc_block ?_
  refine gc_loop (fun kk a' w' => ∃ i : Nat, Fr ⟨91, dnD g3 g4⟩ a' [(2, .pointer (some ⟨g2, 0, none⟩)), (3, .pointer (some ⟨g3, 0, none⟩)), (4, .pointer (some ⟨g4, 0, none⟩)), (5, .pointer (some ⟨gc, 0, none⟩)), (75, .int .i64 1), (76, .int .i64 (i : Nat))] ∧ i ≤ 1 ∧ kk = 2 - i ∧ ((i = 0 ∧ St w.heap.size w w' [.blk gc 108 (nrC A c (9) (.slice none 0 0) (.slice As 1 cs)), .row As cs 61 3 1 (shC ⟨1, 1, 1⟩), .blk g2 69 zN, .blk g3 34 [.int .i64 0], .blk g4 3 [.int .i64 0]]) ∨
    (i = 1 ∧ ∃ AL cL As cs W B', St w.heap.size w w' [.blk gc 108 (nrC A c (18) (.slice AL 1 cL) (.slice As 2 cs)), .row As cs 61 3 2 sh2, .row AL cL 65 14 1 (lyC ⟨8, 0, 0, 0, 0, 0, 0, 0, 0, exA, W, B', (none, 0, 0), (none, 0, 0)⟩), .blk g2 69 zN, .blk g3 34 [.int .i64 0], .blk g4 3 [.int .i64 0]]))) 2 ?_ ?_ ?_
  · intro a' ha; exact ⟨0, ha.sub ⟨rfl, rfl, rfl, rfl, rfl, rfl, trivial⟩, by omega, by omega, .inl ⟨rfl, hS⟩⟩
  · rintro a' w' ⟨i, _, h1, h2, _⟩; omega
  clear hS
  rintro kk a' w1 ⟨i, hF, hi, hk, hI⟩
  refine gc_of hF ?_
  clear hF
  refine gc_seq fun K12 hK12 => ?_
  refine gc_region ?_
  refine gl_op rfl rfl rfl (op_pure hT rfl) ?_
  refine gl_nil ?_
  refine hK12 _ _ ?_
  clear hK12; try clear K12
  refine gc_seq fun K13 hK13 => ?_
  refine gc_cond rfl rfl (fun c77 => ?_) (fun c77 => ?_)
  · try simp only [decide_eq_true_eq, decide_eq_false_iff_not, Bool.not_eq_true', Bool.not_eq_false', Int.not_lt, Int.not_le, Nat.not_lt, Nat.not_le, Bool.true_eq, Bool.false_eq, reduceCtorEq] at c77
    have hS : St w.heap.size w w1 [.blk gc 108 (nrC A c (9) (.slice none 0 0) (.slice As 1 cs)), .row As cs 61 3 1 (shC ⟨1, 1, 1⟩), .blk g2 69 zN, .blk g3 34 [.int .i64 0], .blk g4 3 [.int .i64 0]] := by
      rcases hI with h | h
      · exact h.2
      · omega
    refine gc_skip ?_
    refine hK13 _ _ ?_
    clear hK13; try clear K13
    refine gc_seq fun K14 hK14 => ?_
    refine gc_block ?_
    refine gc_region ?_
    refine gl_op rfl rfl rfl (op_pure hT rfl) ?_
    refine gl_callf rfl rfl rfl rfl Tryd.func55 rfl rfl rfl (layer1_calls gc A As c cs (crcV exW) _ _ hS hr) ?_
    rintro _ w79 ⟨rfl, AL, cL, As', cs', W, B', hS⟩
    refine ⟨_, rfl, ?_⟩
    refine gl_nil ?_
    refine hK14 _ _ ?_
    clear hK14; try clear K14
    refine gc_region ?_
    first | refine gl_fit hT rfl rfl rfl rfl (by omega) ?_ | refine gl_op rfl rfl rfl (op_pure hT rfl) ?_
    refine gl_op rfl rfl rfl (op_pure hT rfl) ?_
    refine gl_nil ?_
    intro a' ha
    exact ⟨i + 1, ha.sub ⟨rfl, rfl, rfl, rfl, rfl, rfl, trivial⟩, by omega, by omega, .inr ⟨by omega, AL, cL, As', cs', W, B', hS⟩⟩
  · try simp only [decide_eq_true_eq, decide_eq_false_iff_not, Bool.not_eq_true', Bool.not_eq_false', Int.not_lt, Int.not_le, Nat.not_lt, Nat.not_le, Bool.true_eq, Bool.false_eq, reduceCtorEq] at c77
    obtain ⟨AL, cL, As, cs, W, B', hS⟩ : ∃ AL cL As cs W B', St w.heap.size w w1 [.blk gc 108 (nrC A c (18) (.slice AL 1 cL) (.slice As 2 cs)), .row As cs 61 3 2 sh2, .row AL cL 65 14 1 (lyC ⟨8, 0, 0, 0, 0, 0, 0, 0, 0, exA, W, B', (none, 0, 0), (none, 0, 0)⟩), .blk g2 69 zN, .blk g3 34 [.int .i64 0], .blk g4 3 [.int .i64 0]] := by
      rcases hI with h | h
      · omega
      · exact h.2
    have hS := hS.permute (.cons _ (.cons _ (List.perm_append_comm (l₁ := [_]) (l₂ := [_, _, _]))))
    refine gc_exit ?_
    refine hK10 _ _ ?_
    clear hK10; try clear K10
    refine gc_seq fun K15 hK15 => ?_
    refine gc_region ?_
    refine gl_op rfl rfl rfl (op_pure hT rfl) ?_
    refine gl_callf rfl rfl rfl rfl Tryd.func56 rfl rfl rfl (names1_calls gc A As AL c cs cL (crcV exW) _ _ hS hr) ?_
    rintro _ w82 ⟨rfl, hS⟩
    refine ⟨_, rfl, ?_⟩
    refine gl_nil ?_
    refine hK15 _ _ ?_
    clear hK15; try clear K15
    refine gc_seq fun K16 hK16 => ?_
    refine gc_region ?_
    refine gl_op rfl rfl rfl (op_pure hT rfl) ?_
    refine gl_op rfl rfl rfl (op_pure hT rfl) ?_
    refine gl_op rfl rfl rfl (op_fieldB 0 rfl Tryd.underlying108 rfl el54 rfl rfl) ?_
    refine gl_callP rfl rfl rfl rfl Tryd.func57 rfl rfl rfl (cTail_calls gc _ A 23 c exB 19 _ _ _ hS hr rfl hc (ex_le _) (by show (0 : Int) ≤ 19 ∧ (19 : Int) ≤ (23 : Nat); decide)) ?_
    rintro _ w86 (⟨x, y, hx, rfl, hS⟩ | ⟨hx, rfl, hS⟩)
    · rw [ex_t] at hx; cases hx
    refine .inl ⟨_, rfl, ?_⟩
    refine gl_nil ?_
    refine hK16 _ _ ?_
    clear hK16; try clear K16
    refine gc_seq fun K17 hK17 => ?_
    refine gc_region ?_
    refine gl_op rfl rfl rfl (op_pure hT rfl) ?_
    refine gl_op rfl rfl rfl (op_pure hT rfl) ?_
    refine gl_op rfl rfl rfl (op_fieldB 2 rfl Tryd.underlying108 rfl el69 rfl rfl) ?_
    refine gl_op rfl rfl rfl (op_loadG 0 Tryd.underlying69 rfl el69 hS rfl rfl rfl rfl rfl) ?_
    refine gl_storeM 2 hS el69 rfl rfl rfl rfl rfl rfl rfl rfl rfl fun wcode_go_260 hS => ?_
    refine gl_store 3 hS el34.cellsOf.1 el34.cellsOf.2 rfl rfl rfl rfl rfl rfl rfl rfl fun wcode_go_260 hS => ?_
    refine gl_store 4 hS el3.cellsOf.1 el3.cellsOf.2 rfl rfl rfl rfl rfl rfl rfl rfl fun wcode_go_260 hS => ?_
    refine gl_nil ?_
    refine hK17 _ _ ?_
    clear hK17; try clear K17
    refine gc_ret ?_
    try simp only [x_then_ret, x_block_ret]
    have hS : St w.heap.size w _ [.blk gc 108 (nrC A c (19) (.slice AL 1 cL) (.slice As 2 cs)), .row As cs 61 3 2 sh2, .blk g2 69 (netC ⟨1, 1, 1⟩ AL 1 cL), .blk g3 34 [.int .i64 0], .blk g4 3 [.int .i64 0], .row AL cL 65 14 1 (lyC ⟨8, 0, 0, 0, 0, 0, 0, 0, 0, exA, W, B', (none, 0, 0), (none, 0, 0)⟩)] := hS
    have hS2 := hS.permute (.cons _ ((List.perm_append_comm (l₁ := [_]) (l₂ := [_, _, _])).append_right _))
    refine gk_dnret (L := [_, _]) rfl ⟨rfl, rfl, rfl, trivial⟩ hS2 ?_
    exact ⟨AL, cL, W, B', rfl, ((((hS.erase 0).erase 0).erase 0).erase 0).erase 0⟩
end Go.Proofs.YtnomlloaahoceaaDoor

