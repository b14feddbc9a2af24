/- Contracts of functions that CodeNetBytes reaches, and words to say them. No condition. -/
import Derived.Test.YtnomlloaahoceaaGreatDoorZ27
import Derived.Test.YtnomlloaahoceaaGreatDoorZ03
/- Contracts of package code: the first example's network, read whole; and no bytes. No condition. -/
namespace Go.Proofs.YtnomlloaahoceaaGreatDoor
open Go.RowKit
set_option linter.unusedVariables false
set_option linter.unusedSimpArgs false
@[reducible] def dnD (g3 g4 : Nat) : List Deferred := [{ target := .fn (.func 17) #[.pointer (some ⟨g3, 0, none⟩), .pointer (some ⟨g4, 0, none⟩)], args := #[] }]
@[reducible] def zN : List Value := [.int .i64 0, .int .i64 0, .int .i64 0, .slice none 0 0, .slice none 0 0]
@[reducible] def dnL (g2 g3 g4 : Nat) (zn : List Value) (x y : Int) : List It := [.blk g2 31 zn, .blk g3 32 [.int .i64 x], .blk g4 3 [.int .i64 y]]
def DnQ (R : Ending → World → Prop) : Exit → Act → World → Prop
 | .panic _, _, _ => False
 | ex, a, w => bodyPostD Tryz.prog Tryz.f7 R ex a w
theorem dnQ_to {R : Ending → World → Prop} : ∀ ex a w, DnQ R ex a w → bodyPostD Tryz.prog Tryz.f7 R ex a w
 | .normal, a, w, h => h
 | .ret, a, w, h => h
 | .exit i, a, w, h => h
 | .goto l, a, w, h => h
 | .outgrown, a, w, h => h
 | .panic ch, a, w, h => h.elim
theorem dn_res {w' : World} {a : Act} {B : Nat} {w0 : World} {g2 g3 g4 : Nat} {zn : List Value} {x y : Int} {it : It} {L : List It} {N : Nt} (hz : zn.length = 5) (h3 : Fr N a (dpE g2 g3 g4)) (hS : St B w0 w' (it :: dnL g2 g3 g4 zn x y ++ L)) :
 (results Tryz.f7 a.tmps).run Tryz.prog w' = .ok (.tuple #[.agg ⟨zn⟩, .int .i64 x, .int .i64 y]) w' := by
 have e1 : resV Tryz.prog w' (dpE g2 g3 g4) (.cell 2 31) (.agg ⟨zn⟩) := ⟨_, rfl, run_loadVarB 1 Tryz.underlying31 rfl el31 hS rfl (by rw [List.drop_zero, List.take_of_length_le (by omega)]) hz⟩
 have e2 : resV Tryz.prog w' (dpE g2 g3 g4) (.cell 3 32) (.int .i64 x) := ⟨_, rfl, run_loadVar1 2 hT hS rfl rfl rfl rfl⟩
 have e3 : resV Tryz.prog w' (dpE g2 g3 g4) (.cell 4 3) (.int .i64 y) := ⟨_, rfl, run_loadVar1 3 hT hS rfl rfl rfl rfl⟩
 rw [results_eq, show Tryz.f7.results = #[.cell 2 31, .cell 3 32, .cell 4 3] from rfl]
 simp [run_resR h3 e1, run_resR h3 e2, run_resR h3 e3]
theorem gk_dnret {R : Ending → World → Prop} {B : Nat} {w0 w : World} {e : Env} {g2 g3 g4 : Nat} {zn : List Value} {x y : Int} {it : It} {L : List It} (hz : zn.length = 5) (he : subEnv e (dpE g2 g3 g4)) (hS : St B w0 w (it :: dnL g2 g3 g4 zn x y ++ L))
 (h : R (.returned (.tuple #[.agg ⟨zn⟩, .int .i64 x, .int .i64 y])) w) :
 GK ⟨91, dnD g3 g4⟩ e (DnQ R .ret) w := fun a ha => by
 show Leaves _ _ a.tmps R a.defers .returning w
 have h3 := ha.sub he
 rw [ha.defers]
 refine leaves_cons (by simp) (by simp [go_sem]) ((catchN_idle g3 g4 w).mono ?_)
 rintro en u' w' ⟨rfl, rfl, rfl⟩
 exact ⟨_, dn_res hz h3 hS, h⟩
theorem gk_dnpan {R : Ending → World → Prop} {B : Nat} {w0 w : World} {e : Env} {g2 g3 g4 : Nat} {x y : Int} {it : It} {L : List It} (he : subEnv e (dpE g2 g3 g4)) (hS : St B w0 w (it :: dnL g2 g3 g4 zN 0 0 ++ L))
 (h : ∀ w' L', St B w0 w' L' → R (.returned (.tuple #[.agg ⟨zN⟩, .int .i64 x, .int .i64 y])) w') :
 GK ⟨91, dnD g3 g4⟩ e (bodyPostD Tryz.prog Tryz.f7 R (.panic (pn x y))) w := fun a ha => by
 show Leaves _ _ a.tmps R a.defers (.panicking (pn x y)) w
 have h3 := ha.sub he
 rw [ha.defers]
 have hp : (it :: dnL g2 g3 g4 zN 0 0 ++ L).Perm (.blk g3 32 [.int .i64 0] :: .blk g4 3 [.int .i64 0] :: .blk g2 31 zN :: it :: L) := by
  show (it :: ([_, _, _] ++ L)).Perm (([_, _, _] : List It) ++ it :: L)
  exact (List.Perm.cons it ((p_cab _ _ _).append_right L)).trans (List.perm_middle).symm
 refine leaves_cons (by simp) (by simp [go_sem]) ((catchN_calls g3 g4 x y 0 0 [] _ w (hS.permute hp)).mono ?_)
 rintro en u' w' ⟨rfl, rfl, hS⟩
 refine ⟨_, dn_res (it := it) (L := L) rfl h3 (hS.permute ?_), h w' _ hS⟩
 show ((([_, _, _] : List It) ++ it :: L)).Perm (it :: ([_, _, _] ++ L))
 exact (List.perm_middle).trans (List.Perm.cons it ((p_bca _ _ _).append_right L))
set_option maxHeartbeats 4000000 in
set_option maxRecDepth 100000 in
theorem decodeNet0_calls (w : World) : Calls Tryz.prog 7 ⟨[.slice none 0 0]⟩ w fun e w' => e = .returned (.tuple #[.agg ⟨zN⟩, .int .i64 80, .int .i64 0]) ∧ Below w.heap.size w w' := by
 obtain ⟨A, hA⟩ : ∃ A : Option Addr, A = none := ⟨_, rfl⟩
 obtain ⟨c, hc⟩ : ∃ c : Nat, c = 0 := ⟨_, rfl⟩
 have hr : Rdb w.heap.size w All none ([] : List UInt8) := fun hS => RdE.nil _ none
 refine gc_enterD (N := 91) Tryz.func7 rfl rfl rfl [(0, _)] rfl ?_
 have hS := St.start w
 refine gc_seq fun K1 hK1 => gc_region (gl_alloc el31 hS rfl rfl rfl rfl fun g2 w2 hS => ?_)
 refine gl_alloc el32 hS rfl rfl rfl rfl fun g3 w3 hS => ?_
 refine gl_alloc el3 hS rfl rfl rfl rfl fun g4 w4 hS => ?_
 refine gl_nil (hK1 _ _ (gc_cut (fun a w' => ∃ g2 g3 g4, Fr ⟨91, dnD g3 g4⟩ a [(0, .slice none 0 0), (2, .pointer (some ⟨g2, 0, none⟩)), (3, .pointer (some ⟨g3, 0, none⟩)), (4, .pointer (some ⟨g4, 0, none⟩))] ∧ St w.heap.size w w' [.blk g2 31 zN, .blk g3 32 [.int .i64 0], .blk g4 3 [.int .i64 0]]) ?_ ?_))
 ·refine gc_region (gl_op rfl rfl rfl (op_mkFunc0 rfl rfl) ?_)
  refine gl_defer rfl rfl rfl rfl ?_
  refine gl_nil ?_
  intro a ha
  exact ⟨g2, g3, g4, ha.sub ⟨rfl, rfl, rfl, rfl, trivial⟩, hS⟩
 rintro a w1 ⟨g2, g3, g4, hF, hS⟩
 refine gc_of hF ?_
 clear hF
 refine gc_seq fun K2 hK2 => gc_region (Zp rfl (gl_op rfl rfl rfl (op_buildG rfl plan61 rfl rfl) ?_))
 refine gl_op rfl rfl rfl (op_buildG rfl plan64 rfl rfl) ?_
 refine gl_box hS rfl rfl rfl rfl rfl fun g14 w14 hS => ?_
 refine Zp rfl (gl_nil (hK2 _ _ (gc_seq fun K3 hK3 => gc_region (Zp rfl (Zp rfl (Zf 0 Tryz.underlying64 rfl el61 ?_))))))
 have hS := hS.permute (List.perm_append_comm (l₁ := [_, _, _]) (l₂ := [_]))
 refine gl_callP rfl rfl rfl rfl Tryz.func19 rfl rfl rfl (cHead_calls g14 _ none 0 0 [] [65, 77, 66, 78] 0 _ _ _ hS hr rfl (Nat.le_refl _) (by decide)) ?_
 rintro _ w18 (⟨x, y, hx, rfl, hS⟩ | ⟨hx, _⟩)
 ·refine .inr ⟨_, rfl, ?_⟩
  simp only [x_then_panic, x_block_panic]
  obtain ⟨rfl, rfl⟩ : 80 = x ∧ 0 = y := by
   have h0 : hdV [65, 77, 66, 78] [] = some (80, 0) := rfl
   rw [h0] at hx
   injection hx with hx
   injection hx with h1 h2
   exact ⟨h1, h2⟩
  exact gk_dnpan (L := []) ⟨rfl, rfl, rfl, trivial⟩ hS fun w' L' hS => ⟨rfl, hS.below⟩
 cases hx
set_option maxHeartbeats 4000000 in
set_option maxRecDepth 100000 in
theorem decodeNetEx_calls (A : Option Addr) (c : Nat) (w : World) {ok : Nat → Prop} (h1 : RdE w ok uB A exB) (hc : 23 ≤ c) : Calls Tryz.prog 7 ⟨[.slice A 23 c]⟩ w fun e w' => ∃ AL cL W B', e = .returned (.tuple #[.agg ⟨netC ⟨1, 1, 1⟩ AL 1 cL⟩, .int .i64 0, .int .i64 0]) ∧ St w.heap.size w w' [.row AL cL 48 14 1 (lyC ⟨8, 0, 0, 0, 0, 0, 0, 0, 0, exA, W, B', (none, 0, 0), (none, 0, 0)⟩)] := by
 have hr : Rdb w.heap.size w ok A exB := fun hS => h1.old hS
 refine gc_enterD (N := 91) Tryz.func7 rfl rfl rfl [(0, _)] rfl ?_
 have hS := St.start w
 refine gc_conseq dnQ_to ?_
 refine gc_seq fun K1 hK1 => gc_region (gl_alloc el31 hS rfl rfl rfl rfl fun g2 w2 hS => ?_)
 refine gl_alloc el32 hS rfl rfl rfl rfl fun g3 w3 hS => ?_
 refine gl_alloc el3 hS rfl rfl rfl rfl fun g4 w4 hS => ?_
 refine gl_nil (hK1 _ _ (gc_cut (fun a w' => ∃ g2 g3 g4, Fr ⟨91, dnD g3 g4⟩ a [(0, .slice A 23 c), (2, .pointer (some ⟨g2, 0, none⟩)), (3, .pointer (some ⟨g3, 0, none⟩)), (4, .pointer (some ⟨g4, 0, none⟩))] ∧ St w.heap.size w w' [.blk g2 31 zN, .blk g3 32 [.int .i64 0], .blk g4 3 [.int .i64 0]]) ?_ ?_))
 ·refine gc_region (gl_op rfl rfl rfl (op_mkFunc0 rfl rfl) ?_)
  refine gl_defer rfl rfl rfl rfl ?_
  refine gl_nil ?_
  intro a ha
  exact ⟨g2, g3, g4, ha.sub ⟨rfl, rfl, rfl, rfl, trivial⟩, hS⟩
 rintro a w1 ⟨g2, g3, g4, hF, hS⟩
 refine gc_of hF ?_
 clear hF
 refine gc_cut (fun a w' => ∃ g2 g3 g4 gc, Fr ⟨91, dnD g3 g4⟩ a [(2, .pointer (some ⟨g2, 0, none⟩)), (3, .pointer (some ⟨g3, 0, none⟩)), (4, .pointer (some ⟨g4, 0, none⟩)), (5, .pointer (some ⟨gc, 0, none⟩))] ∧ St w.heap.size w w' [.blk gc 64 (cuC A 23 c 0 [.int .i64 0, .int .i64 0, .int .i64 0, .slice none 0 0, .slice none 0 0, .slice none 0 0, .int .i64 0]), .blk g2 31 zN, .blk g3 32 [.int .i64 0], .blk g4 3 [.int .i64 0]]) ?_ ?_
 ·refine gc_region (Zp rfl (gl_op rfl rfl rfl (op_buildG rfl plan61 rfl rfl) ?_))
  refine gl_op rfl rfl rfl (op_buildG rfl plan64 rfl rfl) ?_
  refine gl_box hS rfl rfl rfl rfl rfl fun g14 w14 hS => ?_
  refine Zp rfl (gl_nil ?_)
  intro a ha
  exact ⟨g2, g3, g4, g14, ha.sub ⟨rfl, rfl, rfl, rfl, trivial⟩, hS.permute (List.perm_append_comm (l₁ := [_, _, _]) (l₂ := [_]))⟩
 rintro a w1 ⟨g2, g3, g4, gc, hF, hS⟩
 refine gc_of hF ?_
 clear hF
 refine gc_seq fun K2 hK2 => gc_region (Zp rfl (Zp rfl (Zf 0 Tryz.underlying64 rfl el61 (gl_callP rfl rfl rfl rfl Tryz.func19 rfl rfl rfl (cHead_calls gc _ A 23 c exB [65, 77, 66, 78] 0 _ _ _ hS hr rfl hc (by show 23 ≤ 4611686018427387904; decide)) ?_))))
 rintro _ w18 (⟨x, y, hx, rfl, hS⟩ | ⟨hx, rfl, hS⟩)
 ·rw [show hdV [65, 77, 66, 78] exB = none from ex_h _] at hx; cases hx
 refine .inl ⟨_, rfl, ?_⟩
 refine gl_nil (hK2 _ _ (gc_seq fun K3 hK3 => gc_anyS (hS.blank 0) (by kernel_rfl) rfl fun nq4 hK => ?_))
 have hS := hS.dr nq4
 refine Yp 0 rfl (by kernel_rfl) (fun _ _ _ _ h => h) hK ?_
 refine Yp 1 rfl (by kernel_rfl) (fun _ _ _ _ h => h) hK ?_
 refine Yp 2 rfl (by kernel_rfl) (fun _ _ _ _ h => h) hK ?_
 refine Yf 3 0 Tryz.underlying64 rfl el61 (by kernel_rfl) (fun _ _ _ _ h => h) hK ?_
 refine Yp 5 rfl (by kernel_rfl) (fun _ _ _ _ h => h) hK ?_
 refine Yp 6 rfl (by kernel_rfl) (fun _ _ _ _ h => h) hK ?_
 refine Yf 7 0 Tryz.underlying64 rfl el61 (by kernel_rfl) (fun _ _ _ _ h => h) hK ?_
 refine Yp 9 rfl (by kernel_rfl) (fun _ _ _ _ h => h) hK ?_
 refine Yp 10 rfl (by kernel_rfl) (fun _ _ _ _ h => h) hK ?_
 refine Yf 11 0 Tryz.underlying64 rfl el61 (by kernel_rfl) (fun _ _ _ _ h => h) hK ?_
 refine ga_one 4 (by kernel_rfl) rfl ?_
 refine gl_callP rfl rfl rfl rfl Tryz.func20 rfl rfl rfl (cUint_calls gc _ A 23 c exB 5 _ _ _ hS hr rfl (ex_le _)) ?_
 rintro _ w23 (⟨x, y, hx, rfl, hS⟩ | ⟨k8, a1, hx, rfl, hS⟩)
 ·rw [show rU exB 5 = .ok (1, 6) from ex_5 _] at hx; cases hx
 rw [show rU exB 5 = .ok (1, 6) from ex_5 _] at hx
 obtain ⟨rfl, rfl⟩ : 1 = k8 ∧ 6 = a1 := by injection hx with hx; injection hx with h1 h2; exact ⟨h1, h2⟩
 refine .inl ⟨_, rfl, ?_⟩
 refine gl_nil (ga_next ((hS.blank 0).pre 4) fun hK => ?_)
 refine ga_one 8 (by kernel_rfl) rfl ?_
 refine gl_callP rfl rfl rfl rfl Tryz.func20 rfl rfl rfl (cUint_calls gc _ A 23 c exB 6 _ _ _ hS hr rfl (ex_le _)) ?_
 rintro _ w27 (⟨x, y, hx, rfl, hS⟩ | ⟨k8, a1, hx, rfl, hS⟩)
 ·rw [show rU exB 6 = .ok (1, 7) from ex_6 _] at hx; cases hx
 rw [show rU exB 6 = .ok (1, 7) from ex_6 _] at hx
 obtain ⟨rfl, rfl⟩ : 1 = k8 ∧ 7 = a1 := by injection hx with hx; injection hx with h1 h2; exact ⟨h1, h2⟩
 refine .inl ⟨_, rfl, ?_⟩
 refine gl_nil (ga_next ((hS.blank 0).pre 4) fun hK => ?_)
 refine ga_one 12 (by kernel_rfl) rfl ?_
 refine gl_callP rfl rfl rfl rfl Tryz.func20 rfl rfl rfl (cUint_calls gc _ A 23 c exB 7 _ _ _ hS hr rfl (ex_le _)) ?_
 rintro _ w31 (⟨x, y, hx, rfl, hS⟩ | ⟨k8, a1, hx, rfl, hS⟩)
 ·rw [show rU exB 7 = .ok (1, 8) from ex_7 _] at hx; cases hx
 rw [show rU exB 7 = .ok (1, 8) from ex_7 _] at hx
 obtain ⟨rfl, rfl⟩ : 1 = k8 ∧ 8 = a1 := by injection hx with hx; injection hx with h1 h2; exact ⟨h1, h2⟩
 refine .inl ⟨_, rfl, ?_⟩
 refine gl_nil (ga_next ((hS.blank 0).pre 4) fun hK => ?_)
 refine ga_take 13 rfl rfl rfl rfl (by kernel_rfl) (fun _ _ _ _ h => h) hK (fun w1 hS => op_buildG rfl plan27 rfl rfl) ?_
 refine Yp 14 rfl (by kernel_rfl) (fun _ _ _ _ h => h) hK ?_
 refine Yf 15 2 Tryz.underlying64 rfl el31 (by kernel_rfl) (fun _ _ _ _ h => h) hK ?_
 refine Yf 16 2 Tryz.underlying31 rfl el27 (by kernel_rfl) (fun _ _ _ _ h => h) hK ?_
 refine ga_one 17 (by kernel_rfl) rfl ?_
 refine gl_storeM 0 hS el27 rfl rfl rfl rfl rfl rfl rfl rfl rfl fun w_246 hS => ?_
 refine gl_nil (ga_next ((hS.blank 0).pre 4) fun hK => ?_)
 refine ga_done (by kernel_rfl) ?_
 refine hK3 _ _ (gc_seq fun K4 hK4 => gc_region (Zp rfl (Zp rfl (Zf 2 Tryz.underlying64 rfl el31 (Zf 2 Tryz.underlying31 rfl el27 (Zg 0 Tryz.underlying27 el27 hS rfl (gl_callf rfl rfl rfl rfl Tryz.func21 rfl rfl rfl (mSize_calls ⟨1, 1, 1⟩ _ ⟨by decide, by decide, by decide⟩) ?_)))))))
 rintro _ w42 ⟨rfl, hb42⟩
 refine ⟨_, rfl, ?_⟩
 have hS := hS.grown hb42
 rw [exSize]
 refine Zp rfl (Zp rfl (Zp rfl (Zp rfl (Zp rfl (gl_nil (hK4 _ _ (gc_seq fun K5 hK5 => gc_region (Zp rfl (Zp rfl (Zf 0 Tryz.underlying64 rfl el61 (Zp rfl (gl_callP rfl rfl rfl rfl Tryz.func22 rfl rfl rfl (check_calls8 _ 0 5 _) ?_))))))))))))
 rintro _ w49 (⟨hx, rfl, hb49⟩ | ⟨hx, rfl, hb49⟩)
 ·exact absurd rfl hx
 refine .inl ⟨_, rfl, ?_⟩
 have hS := hS.eqv hb49
 refine gl_nil (hK5 _ _ (gc_cut (fun a w' => ∃ As cs, Fr ⟨91, dnD g3 g4⟩ a [(2, .pointer (some ⟨g2, 0, none⟩)), (3, .pointer (some ⟨g3, 0, none⟩)), (4, .pointer (some ⟨g4, 0, none⟩)), (5, .pointer (some ⟨gc, 0, none⟩))] ∧ St w.heap.size w w' [.blk gc 64 (nrC A c (8) (.slice none 0 0) (.slice As 1 cs)), .row As cs 27 3 1 (shC ⟨1, 1, 1⟩), .blk g2 31 zN, .blk g3 32 [.int .i64 0], .blk g4 3 [.int .i64 0]]) ?_ ?_))
 ·refine gc_region (Zp rfl (Zp rfl (Zp rfl (Zf 2 Tryz.underlying64 rfl el31 (Zf 2 Tryz.underlying31 rfl el27 (Zg 0 Tryz.underlying27 el27 hS rfl (gl_litS hT hS el27 rfl rfl rfl rfl rfl rfl rfl (by decide) fun g56 w56 hS => ?_)))))))
  refine Zp rfl (Zf 7 Tryz.underlying64 rfl el62 (gl_store 0 hS el62.cellsOf.1 el62.cellsOf.2 rfl rfl rfl rfl rfl rfl rfl rfl fun w_249 hS => ?_))
  refine gl_nil ?_
  intro a ha
  exact ⟨_, _, ha.sub ⟨rfl, rfl, rfl, rfl, trivial⟩, hS.permute (.cons _ (List.perm_append_comm (l₁ := [_, _, _]) (l₂ := [_])))⟩
 rintro a w1 ⟨As, cs, hF, hS⟩
 refine gc_of hF ?_
 clear hF
 refine gc_seq fun K6 hK6 => gc_region (Zp rfl (Zp rfl (Zf 0 Tryz.underlying64 rfl el61 (Zf 1 Tryz.underlying61 rfl el3 (Zb 0 hS rfl (Zp rfl (gl_nil (hK6 _ _ (gc_seq fun K7 hK7 => gc_region (Zp rfl (Zp rfl (Zf 0 Tryz.underlying64 rfl el61 (gl_callP rfl rfl rfl rfl Tryz.func20 rfl rfl rfl (cUint_calls gc _ A 23 c exB 8 _ _ _ hS hr rfl (ex_le _)) ?_)))))))))))))
 rintro _ w67 (⟨x, y, hx, rfl, hS⟩ | ⟨k8, a1, hx, rfl, hS⟩)
 ·rw [show rU exB 8 = .ok (1, 9) from ex_8 _] at hx; cases hx
 rw [show rU exB 8 = .ok (1, 9) from ex_8 _] at hx
 obtain ⟨rfl, rfl⟩ : 1 = k8 ∧ 9 = a1 := by injection hx with hx; injection hx with h1 h2; exact ⟨h1, h2⟩
 refine .inl ⟨_, rfl, ?_⟩
 refine Zp rfl (gl_nil (hK7 _ _ (gc_seq fun K8 hK8 => gc_seq fun K9 hK9 => gc_region (Zp rfl (Zp rfl (gl_nil (hK9 _ _ (gc_cond_f rfl (gc_skip (hK8 _ _ (gc_seq fun K10 hK10 => gc_seq fun K11 hK11 => gc_region (Zp rfl (Zp rfl (gl_nil (hK11 _ _ (gc_block ?_))))))))))))))))
 refine gc_loop (fun kk a' w' => ∃ i : Nat, Fr ⟨91, dnD g3 g4⟩ a' [(2, .pointer (some ⟨g2, 0, none⟩)), (3, .pointer (some ⟨g3, 0, none⟩)), (4, .pointer (some ⟨g4, 0, none⟩)), (5, .pointer (some ⟨gc, 0, none⟩)), (75, .int .i64 1), (76, .int .i64 (i : Nat))] ∧ i ≤ 1 ∧ kk = 2 - i ∧ ((i = 0 ∧ St w.heap.size w w' [.blk gc 64 (nrC A c (9) (.slice none 0 0) (.slice As 1 cs)), .row As cs 27 3 1 (shC ⟨1, 1, 1⟩), .blk g2 31 zN, .blk g3 32 [.int .i64 0], .blk g4 3 [.int .i64 0]]) ∨
  (i = 1 ∧ ∃ AL cL As cs W B', St w.heap.size w w' [.blk gc 64 (nrC A c (18) (.slice AL 1 cL) (.slice As 2 cs)), .row As cs 27 3 2 sh2, .row AL cL 48 14 1 (lyC ⟨8, 0, 0, 0, 0, 0, 0, 0, 0, exA, W, B', (none, 0, 0), (none, 0, 0)⟩), .blk g2 31 zN, .blk g3 32 [.int .i64 0], .blk g4 3 [.int .i64 0]]))) 2 ?_ ?_ ?_
 ·intro a' ha; exact ⟨0, ha.sub ⟨rfl, rfl, rfl, rfl, rfl, rfl, trivial⟩, by omega, by omega, .inl ⟨rfl, hS⟩⟩
 ·rintro a' w' ⟨i, _, h1, h2, _⟩; omega
 clear hS
 rintro kk a' w1 ⟨i, hF, hi, hk, hI⟩
 refine gc_of hF ?_
 clear hF
 refine gc_seq fun K12 hK12 => gc_region (Zp rfl (gl_nil (hK12 _ _ (gc_seq fun K13 hK13 => gc_cond rfl rfl (fun c77 => ?_) (fun c77 => ?_)))))
 ·simp only [NN, reduceCtorEq] at c77
  have hS : St w.heap.size w w1 [.blk gc 64 (nrC A c (9) (.slice none 0 0) (.slice As 1 cs)), .row As cs 27 3 1 (shC ⟨1, 1, 1⟩), .blk g2 31 zN, .blk g3 32 [.int .i64 0], .blk g4 3 [.int .i64 0]] := by
   rcases hI with h | h
   ·exact h.2
   omega
  refine gc_skip (hK13 _ _ (gc_seq fun K14 hK14 => gc_block (gc_region (Zp rfl (gl_callf rfl rfl rfl rfl Tryz.func24 rfl rfl rfl (layer1_calls gc A As c cs (crcV exW) _ _ hS hr) ?_)))))
  rintro _ w79 ⟨rfl, AL, cL, As', cs', W, B', hS⟩
  refine ⟨_, rfl, ?_⟩
  refine gl_nil (hK14 _ _ (gc_region (Zi rfl (by omega) ?_)))
  refine Zp rfl (gl_nil ?_)
  intro a' ha
  exact ⟨i + 1, ha.sub ⟨rfl, rfl, rfl, rfl, rfl, rfl, trivial⟩, by omega, by omega, .inr ⟨by omega, AL, cL, As', cs', W, B', hS⟩⟩
 simp only [NN, reduceCtorEq] at c77
 obtain ⟨AL, cL, As, cs, W, B', hS⟩ : ∃ AL cL As cs W B', St w.heap.size w w1 [.blk gc 64 (nrC A c (18) (.slice AL 1 cL) (.slice As 2 cs)), .row As cs 27 3 2 sh2, .row AL cL 48 14 1 (lyC ⟨8, 0, 0, 0, 0, 0, 0, 0, 0, exA, W, B', (none, 0, 0), (none, 0, 0)⟩), .blk g2 31 zN, .blk g3 32 [.int .i64 0], .blk g4 3 [.int .i64 0]] := by
  rcases hI with h | h
  ·omega
  exact h.2
 have hS := hS.permute (.cons _ (.cons _ (List.perm_append_comm (l₁ := [_]) (l₂ := [_, _, _]))))
 refine gc_exit ?_
 refine hK10 _ _ (gc_seq fun K15 hK15 => gc_region (Zp rfl (gl_callf rfl rfl rfl rfl Tryz.func25 rfl rfl rfl (names1_calls gc A As AL c cs cL (crcV exW) _ _ hS hr) ?_)))
 rintro _ w82 ⟨rfl, hS⟩
 refine ⟨_, rfl, ?_⟩
 refine gl_nil (hK15 _ _ (gc_seq fun K16 hK16 => gc_region (Zp rfl (Zp rfl (Zf 0 Tryz.underlying64 rfl el61 (gl_callP rfl rfl rfl rfl Tryz.func26 rfl rfl rfl (cTail_calls gc _ A 23 c exB 19 _ _ _ hS hr rfl hc (ex_le _) (by show (0 : Int) ≤ 19 ∧ (19 : Int) ≤ (23 : Nat); decide)) ?_))))))
 rintro _ w86 (⟨x, y, hx, rfl, hS⟩ | ⟨hx, rfl, hS⟩)
 ·rw [ex_t] at hx; cases hx
 refine .inl ⟨_, rfl, ?_⟩
 refine gl_nil (hK16 _ _ (gc_seq fun K17 hK17 => gc_region (Zp rfl (Zp rfl (Zf 2 Tryz.underlying64 rfl el31 (Zg 0 Tryz.underlying31 el31 hS rfl (gl_storeM 2 hS el31 rfl rfl rfl rfl rfl rfl rfl rfl rfl fun w_260 hS => ?_)))))))
 refine gl_store 3 hS el32.cellsOf.1 el32.cellsOf.2 rfl rfl rfl rfl rfl rfl rfl rfl fun w_260 hS => ?_
 refine gl_store 4 hS el3.cellsOf.1 el3.cellsOf.2 rfl rfl rfl rfl rfl rfl rfl rfl fun w_260 hS => ?_
 refine gl_nil (hK17 _ _ (gc_ret ?_))
 have hS : St w.heap.size w _ [.blk gc 64 (nrC A c (19) (.slice AL 1 cL) (.slice As 2 cs)), .row As cs 27 3 2 sh2, .blk g2 31 (netC ⟨1, 1, 1⟩ AL 1 cL), .blk g3 32 [.int .i64 0], .blk g4 3 [.int .i64 0], .row AL cL 48 14 1 (lyC ⟨8, 0, 0, 0, 0, 0, 0, 0, 0, exA, W, B', (none, 0, 0), (none, 0, 0)⟩)] := hS
 have hS2 := hS.permute (.cons _ ((List.perm_append_comm (l₁ := [_]) (l₂ := [_, _, _])).append_right _))
 refine gk_dnret (L := [_, _]) rfl ⟨rfl, rfl, rfl, trivial⟩ hS2 ?_
 exact ⟨AL, cL, W, B', rfl, ((((hS.erase 0).erase 0).erase 0).erase 0).erase 0⟩
end Go.Proofs.YtnomlloaahoceaaGreatDoor
