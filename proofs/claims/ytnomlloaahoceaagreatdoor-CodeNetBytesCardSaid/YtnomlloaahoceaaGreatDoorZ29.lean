/- Contracts of functions that CodeNetBytes reaches, and words to say them. No condition. -/
import Derived.Test.YtnomlloaahoceaaGreatDoorZ25
import Derived.Test.YtnomlloaahoceaaGreatDoorZ28
import Derived.Test.YtnomlloaahoceaaGreatDoorZ03
/- Contracts of package code: a network read from bytes. No condition. -/
namespace Go.Proofs.YtnomlloaahoceaaGreatDoor
open Go.RowKit
set_option linter.unusedVariables false
set_option linter.unusedSimpArgs false
theorem hdV_lenN {mm l : List UInt8} (h : hdV mm l = none) : l.length ≤ 1048576 ∧ 5 ≤ l.length := hdV_len h
def DmQ (R : Ending → World → Prop) (B : Nat) (w0 : World) (er : Int × Int → Prop) : Exit → Act → World → Prop
 | .panic ch, a, w => ∃ g2 g3 g4 x y it L, er (x, y) ∧ ch = pn x y ∧ Fr ⟨91, dnD g3 g4⟩ a (dpE g2 g3 g4) ∧ St B w0 w (it :: dnL g2 g3 g4 zN 0 0 ++ L)
 | ex, a, w => bodyPostD Tryz.prog Tryz.f7 R ex a w
theorem dmPan {R : Ending → World → Prop} {B : Nat} {w0 : World} {er : Int × Int → Prop} {d : Nat} (hd : ∀ g2 g3 g4, look (dpE g2 g3 g4) d = none) : PanOk (DmQ R B w0 er) d := by
 rintro c a w v ⟨g2, g3, g4, x, y, it, L, h1, h2, h3, h4⟩
 exact ⟨g2, g3, g4, x, y, it, L, h1, h2, h3.unput (hd g2 g3 g4), h4⟩
theorem gk_dm {R : Ending → World → Prop} {B : Nat} {w0 w : World} {er : Int × Int → Prop} {e : Env} {g2 g3 g4 : Nat} {x y : Int} {it : It} {L : List It} (he : subEnv e (dpE g2 g3 g4)) (h1 : er (x, y)) (hS : St B w0 w (it :: dnL g2 g3 g4 zN 0 0 ++ L)) :
 GK ⟨91, dnD g3 g4⟩ e (DmQ R B w0 er (.panic (pn x y))) w := fun a ha => ⟨g2, g3, g4, x, y, it, L, h1, rfl, ha.sub he, hS⟩
theorem dmQ_to {R : Ending → World → Prop} {B : Nat} {w0 : World} {er : Int × Int → Prop} (hR : ∀ x y w L, er (x, y) → St B w0 w L → R (.returned (.tuple #[.agg ⟨zN⟩, .int .i64 x, .int .i64 y])) w) :
 ∀ ex a w, DmQ R B w0 er ex a w → bodyPostD Tryz.prog Tryz.f7 R ex a w
 | .normal, a, w, h => h
 | .ret, a, w, h => h
 | .exit i, a, w, h => h
 | .goto l, a, w, h => h
 | .outgrown, a, w, h => h
 | .panic ch, a, w, h => by
  obtain ⟨g2, g3, g4, x, y, it, L, h1, rfl, h3, h4⟩ := h
  exact gk_dnpan (e := dpE g2 g3 g4) ⟨rfl, rfl, rfl, trivial⟩ h4 (fun w' L' hS => hR x y w' L' h1 hS) a h3
@[reducible] def ntC (s : Sh) (ls ns : Sv) : List Value := [.int .i64 s.c, .int .i64 s.h, .int .i64 s.w, svV ls, svV ns]
structure NtM (w : World) (ok : Nat → Prop) (AL AN : Option Addr) (Ls : List Ly) (q : Nx) : Prop where
 rL : RdS w ok lyC 14 AL Ls
 ly : Lys w ok Ls q.xs
 rN : RdE w ok tV AN q.ns
 nL : q.xs.length ≤ 64
 nN : q.ns.length ≤ 256
 fN : ∀ t ∈ q.ns, t.size ≤ 1048576
 wt : ∀ x ∈ q.xs, wtsV x ≤ 65536
 iS : q.s.ok
def dnR (l : List UInt8) (w : World) (e : Ending) (w' : World) : Prop := (∃ x y, decNetV l = .error (x, y) ∧ e = .returned (.tuple #[.agg ⟨zN⟩, .int .i64 x, .int .i64 y]) ∧ Below w.heap.size w w') ∨
 (∃ q AL cL AN cN Ls K, decNetV l = .ok q ∧ e = .returned (.tuple #[.agg ⟨ntC q.s (AL, Ls.length, cL) (AN, q.ns.length, cN)⟩, .int .i64 0, .int .i64 0]) ∧ St w.heap.size w w' [.keep K w'] ∧ NtM w' K AL AN Ls q)
set_option maxHeartbeats 4000000 in
set_option maxRecDepth 100000 in
theorem decodeNet_calls (A : Option Addr) (n0 c : Nat) (l : List UInt8) (w : World) {ok : Nat → Prop} (h1 : RdE w ok uB A l) (hn : n0 = l.length) (hc : n0 ≤ c) (hb : l.length ≤ 4611686018427387904) (hU0 : Tabs w) :
 Calls Tryz.prog 7 ⟨[.slice A n0 c]⟩ w (dnR l w) := by
 subst hn
 have hr : Rdb w.heap.size w ok A l := fun hS => h1.old hS
 have hU : ∀ {w1 : World} {L1 : List It}, St w.heap.size w w1 L1 → Tabs w1 := fun hS => hU0.old hS
 have hpan : ∀ d, (∀ g2 g3 g4, look (dpE g2 g3 g4) d = none) → PanOk (DmQ (dnR l w) w.heap.size w fun xy => decNetV l = .error xy) d := fun d hd => dmPan hd
 refine gc_enterD (N := 91) Tryz.func7 rfl rfl rfl [(0, _)] rfl ?_
 have hS := St.start w
 refine gc_conseq (dmQ_to (B := w.heap.size) (w0 := w) (er := fun xy => decNetV l = .error xy) ?_) ?_
 ·exact fun x y w' L h hS => .inl ⟨x, y, h, rfl, hS.below⟩
 refine gc_seq fun K1 hK1 => gc_region (gl_alloc el31 hS rfl rfl rfl rfl fun g2 w2 hS => ?_)
 refine gl_alloc el32 hS rfl rfl rfl rfl fun g3 w3 hS => ?_
 refine gl_alloc el3 hS rfl rfl rfl rfl fun g4 w4 hS => ?_
 refine gl_nil (hK1 _ _ (gc_cut (fun a w' => ∃ g2 g3 g4, Fr ⟨91, dnD g3 g4⟩ a [(0, .slice A l.length c), (2, .pointer (some ⟨g2, 0, none⟩)), (3, .pointer (some ⟨g3, 0, none⟩)), (4, .pointer (some ⟨g4, 0, none⟩))] ∧ St w.heap.size w w' [.blk g2 31 zN, .blk g3 32 [.int .i64 0], .blk g4 3 [.int .i64 0]]) ?_ ?_))
 ·refine gc_region (gl_op rfl rfl rfl (op_mkFunc0 rfl rfl) ?_)
  refine gl_defer rfl rfl rfl rfl ?_
  refine gl_nil ?_
  intro a ha
  exact ⟨g2, g3, g4, ha.sub ⟨rfl, rfl, rfl, rfl, trivial⟩, hS⟩
 rintro a w1 ⟨g2, g3, g4, hF, hS⟩
 refine gc_of hF ?_
 clear hF
 refine gc_cut (fun a w' => ∃ g2 g3 g4 gc, Fr ⟨91, dnD g3 g4⟩ a [(2, .pointer (some ⟨g2, 0, none⟩)), (3, .pointer (some ⟨g3, 0, none⟩)), (4, .pointer (some ⟨g4, 0, none⟩)), (5, .pointer (some ⟨gc, 0, none⟩))] ∧ St w.heap.size w w' [.blk gc 64 (nrX A l.length c (0) zSh (.slice none 0 0) (.slice none 0 0) (.slice none 0 0) (0)), .blk g2 31 zN, .blk g3 32 [.int .i64 0], .blk g4 3 [.int .i64 0]]) ?_ ?_
 ·refine gc_region (Zp rfl (gl_op rfl rfl rfl (op_buildG rfl plan61 rfl rfl) ?_))
  refine gl_op rfl rfl rfl (op_buildG rfl plan64 rfl rfl) ?_
  refine gl_box hS rfl rfl rfl rfl rfl fun g14 w14 hS => ?_
  refine Zp rfl (gl_nil ?_)
  intro a ha
  exact ⟨g2, g3, g4, g14, ha.sub ⟨rfl, rfl, rfl, rfl, trivial⟩, hS.permute (List.perm_append_comm (l₁ := [_, _, _]) (l₂ := [_]))⟩
 rintro a w1 ⟨g2, g3, g4, gc, hF, hS⟩
 refine gc_of hF ?_
 clear hF
 refine gc_seq fun K2 hK2 => gc_region (Zp rfl (Zp rfl (Zf 0 Tryz.underlying64 rfl el61 (gl_callP rfl rfl rfl rfl Tryz.func19 rfl rfl rfl (cHead_calls gc _ A l.length c l [65, 77, 66, 78] 0 _ _ _ hS hr rfl hc hb) ?_))))
 rintro _ w18 (⟨x, y, hx, rfl, hS⟩ | ⟨hx, rfl, hS⟩)
 ·refine .inr ⟨_, rfl, ?_⟩
  simp only [x_then_panic, x_block_panic]
  exact gk_dm ⟨rfl, rfl, rfl, trivial⟩ (decNetV_h hx) hS
 refine .inl ⟨_, rfl, ?_⟩
 obtain ⟨hlen, hlen5⟩ := hdV_lenN hx
 have hD := decNetV_0 hx
 clear hx
 refine gl_nil (hK2 _ _ (gc_seq fun K3 hK3 => gc_anyS (hS.blank 0) (by kernel_rfl) rfl fun nq4 hK => ?_))
 have hS := hS.dr nq4
 refine Yp 0 rfl (by kernel_rfl) (hpan 19 fun _ _ _ => rfl) hK ?_
 refine Yp 1 rfl (by kernel_rfl) (hpan 20 fun _ _ _ => rfl) hK ?_
 refine Yp 2 rfl (by kernel_rfl) (hpan 21 fun _ _ _ => rfl) hK ?_
 refine Yf 3 0 Tryz.underlying64 rfl el61 (by kernel_rfl) (hpan 22 fun _ _ _ => rfl) hK ?_
 refine Yp 5 rfl (by kernel_rfl) (hpan 24 fun _ _ _ => rfl) hK ?_
 refine Yp 6 rfl (by kernel_rfl) (hpan 25 fun _ _ _ => rfl) hK ?_
 refine Yf 7 0 Tryz.underlying64 rfl el61 (by kernel_rfl) (hpan 26 fun _ _ _ => rfl) hK ?_
 refine Yp 9 rfl (by kernel_rfl) (hpan 28 fun _ _ _ => rfl) hK ?_
 refine Yp 10 rfl (by kernel_rfl) (hpan 29 fun _ _ _ => rfl) hK ?_
 refine Yf 11 0 Tryz.underlying64 rfl el61 (by kernel_rfl) (hpan 30 fun _ _ _ => rfl) hK ?_
 refine ga_one 4 (by kernel_rfl) rfl ?_
 refine gl_callP rfl rfl rfl rfl Tryz.func20 rfl rfl rfl (cUint_calls gc _ A l.length c l 5 _ _ _ hS hr rfl hlen) ?_
 rintro _ w23 (⟨x, y, hx, rfl, hS⟩ | ⟨sc, a1, hx, rfl, hS⟩)
 ·refine .inr ⟨_, rfl, ?_⟩
  simp only [x_then_panic, x_block_panic]
  exact gk_dm ⟨rfl, rfl, rfl, trivial⟩ (hD.trans (dnS_e hx)) hS
 refine .inl ⟨_, rfl, ?_⟩
 have hu1 := rU_ok hx
 have hD := hD.trans (dnS_0 hx)
 clear hx
 refine gl_nil (ga_next ((hS.blank 0).pre 4) fun hK => ?_)
 refine ga_one 8 (by kernel_rfl) rfl ?_
 refine gl_callP rfl rfl rfl rfl Tryz.func20 rfl rfl rfl (cUint_calls gc _ A l.length c l a1 _ _ _ hS hr rfl hlen) ?_
 rintro _ w27 (⟨x, y, hx, rfl, hS⟩ | ⟨sh, a2, hx, rfl, hS⟩)
 ·refine .inr ⟨_, rfl, ?_⟩
  simp only [x_then_panic, x_block_panic]
  exact gk_dm ⟨rfl, rfl, rfl, trivial⟩ (hD.trans (dnS1_e hx)) hS
 refine .inl ⟨_, rfl, ?_⟩
 have hu2 := rU_ok hx
 have hD := hD.trans (dnS1_0 hx)
 clear hx
 refine gl_nil (ga_next ((hS.blank 0).pre 4) fun hK => ?_)
 refine ga_one 12 (by kernel_rfl) rfl ?_
 refine gl_callP rfl rfl rfl rfl Tryz.func20 rfl rfl rfl (cUint_calls gc _ A l.length c l a2 _ _ _ hS hr rfl hlen) ?_
 rintro _ w31 (⟨x, y, hx, rfl, hS⟩ | ⟨sw, a3, hx, rfl, hS⟩)
 ·refine .inr ⟨_, rfl, ?_⟩
  simp only [x_then_panic, x_block_panic]
  exact gk_dm ⟨rfl, rfl, rfl, trivial⟩ (hD.trans (dnS2_e hx)) hS
 refine .inl ⟨_, rfl, ?_⟩
 have hu3 := rU_ok hx
 have hD := hD.trans (dnS2_0 hx)
 clear hx
 refine gl_nil (ga_next ((hS.blank 0).pre 4) fun hK => ?_)
 refine ga_take 13 rfl rfl rfl rfl (by kernel_rfl) (hpan 32 fun _ _ _ => rfl) hK (fun w1 hS => op_buildG rfl plan27 rfl rfl) ?_
 refine Yp 14 rfl (by kernel_rfl) (hpan 33 fun _ _ _ => rfl) hK ?_
 refine Yf 15 2 Tryz.underlying64 rfl el31 (by kernel_rfl) (hpan 34 fun _ _ _ => rfl) hK ?_
 refine Yf 16 2 Tryz.underlying31 rfl el27 (by kernel_rfl) (hpan 35 fun _ _ _ => rfl) hK ?_
 refine ga_one 17 (by kernel_rfl) rfl ?_
 refine gl_storeM 0 hS el27 rfl rfl rfl rfl rfl rfl rfl rfl rfl fun w_246 hS => ?_
 refine gl_nil (ga_next ((hS.blank 0).pre 4) fun hK => ?_)
 refine ga_done (by kernel_rfl) ?_
 refine hK3 _ _ (gc_seq fun K4 hK4 => gc_region (Zp rfl (Zp rfl (Zf 2 Tryz.underlying64 rfl el31 (Zf 2 Tryz.underlying31 rfl el27 (Zg 0 Tryz.underlying27 el27 hS rfl ?_))))))
 have hso : (⟨sc, sh, sw⟩ : Sh).ok := ⟨⟨by show _ ≤ sc; omega, by show sc ≤ _; omega⟩, ⟨by show _ ≤ sh; omega, by show sh ≤ _; omega⟩, ⟨by show _ ≤ sw; omega, by show sw ≤ _; omega⟩⟩
 refine gl_callf rfl rfl rfl rfl Tryz.func21 rfl rfl rfl (mSize_calls ⟨sc, sh, sw⟩ _ hso) ?_
 rintro _ w42 ⟨rfl, hb42⟩
 refine ⟨_, rfl, ?_⟩
 have hS := hS.grown hb42
 refine Zp rfl (Zp rfl (Zp rfl (Zp rfl (Zp rfl (gl_nil (hK4 _ _ (gc_seq fun K5 hK5 => gc_region (Zp rfl (Zp rfl (Zf 0 Tryz.underlying64 rfl el61 (Zp rfl (gl_callP rfl rfl rfl rfl Tryz.func22 rfl rfl rfl (check_calls8 _ (sizeV ⟨sc, sh, sw⟩).2 5 _) ?_))))))))))))
 rintro _ w49 (⟨hx, rfl, hb49⟩ | ⟨hx, rfl, hb49⟩)
 ·refine .inr ⟨_, rfl, ?_⟩
  simp only [x_then_panic, x_block_panic]
  exact gk_dm ⟨rfl, rfl, rfl, trivial⟩ (hD.trans (dnS3_b hx)) (hS.eqv hb49)
 refine .inl ⟨_, rfl, ?_⟩
 have hS := hS.eqv hb49
 have hD := hD.trans (dnS3_0 (fun h => h hx))
 refine gl_nil (hK5 _ _ (gc_cut (fun a w' => ∃ s0 As cs K wk, Fr ⟨91, dnD g3 g4⟩ a [(2, .pointer (some ⟨g2, 0, none⟩)), (3, .pointer (some ⟨g3, 0, none⟩)), (4, .pointer (some ⟨g4, 0, none⟩)), (5, .pointer (some ⟨gc, 0, none⟩))] ∧ s0.ok ∧ decNetV l = dnK l s0 a3 ∧ St w.heap.size w w' [.blk gc 64 (nrX A l.length c (a3) s0 (.slice none 0 0) (.slice none 0 0) (.slice As 1 cs) (0)), .row As cs 27 3 1 (shC s0), .row none 0 48 14 0 [], .keep K wk, .blk g2 31 zN, .blk g3 32 [.int .i64 0], .blk g4 3 [.int .i64 0]]) ?_ ?_))
 ·refine gc_region (Zp rfl (Zp rfl (Zp rfl (Zf 2 Tryz.underlying64 rfl el31 (Zf 2 Tryz.underlying31 rfl el27 (Zg 0 Tryz.underlying27 el27 hS rfl (gl_litS hT hS el27 rfl rfl rfl rfl rfl rfl rfl (by decide) fun g56 w56 hS => ?_)))))))
  refine Zp rfl (Zf 7 Tryz.underlying64 rfl el62 (gl_store 0 hS el62.cellsOf.1 el62.cellsOf.2 rfl rfl rfl rfl rfl rfl rfl rfl fun w_249 hS => ?_))
  refine gl_nil ?_
  intro a ha
  have hS := (hS.nil 48 14).keep0
  exact ⟨⟨sc, sh, sw⟩, _, _, _, _, ha.sub ⟨rfl, rfl, rfl, rfl, trivial⟩, hso, hD, hS.permute (.cons _ (List.perm_append_comm (l₁ := [_, _, _]) (l₂ := [_, _, _])))⟩
 rintro a w1 ⟨s0, As, cs, K, wk, hF, hso, hD, hS⟩
 refine gc_of hF ?_
 clear hF
 refine gc_seq fun K6 hK6 => gc_region (Zp rfl (Zp rfl (Zf 0 Tryz.underlying64 rfl el61 (Zf 1 Tryz.underlying61 rfl el3 (Zb 0 hS rfl (Zp rfl (gl_nil (hK6 _ _ (gc_seq fun K7 hK7 => gc_region (Zp rfl (Zp rfl (Zf 0 Tryz.underlying64 rfl el61 (gl_callP rfl rfl rfl rfl Tryz.func20 rfl rfl rfl (cUint_calls gc _ A l.length c l a3 _ _ _ hS hr rfl hlen) ?_)))))))))))))
 rintro _ w67 (⟨x, y, hx, rfl, hS⟩ | ⟨k9, a4, hx, rfl, hS⟩)
 ·refine .inr ⟨_, rfl, ?_⟩
  simp only [x_then_panic, x_block_panic]
  exact gk_dm ⟨rfl, rfl, rfl, trivial⟩ (hD.trans (dnK_e hx)) (St.only (M := [_, _, _]) hS)
 refine .inl ⟨_, rfl, ?_⟩
 have hu4 := rU_ok hx
 obtain ⟨k, rfl⟩ : ∃ n : Nat, k9 = n := ⟨k9.toNat, by omega⟩
 refine Zp rfl (gl_nil (hK7 _ _ (gc_seq fun K8 hK8 => gc_seq fun K9 hK9 => gc_region (Zp rfl (Zp rfl (gl_nil (hK9 _ _ (gc_cond rfl rfl (fun c69 => ?_) (fun c69 => ?_)))))))))
 ·simp only [NN, reduceCtorEq] at c69
  refine gc_region (Zp rfl (Zp rfl (Zf 0 Tryz.underlying64 rfl el61 (Zp rfl (gl_callP rfl rfl rfl rfl Tryz.func23 rfl rfl rfl (fail_calls _ 65 a3 _) ?_)))))
  rintro _ w74 ⟨rfl, hb74⟩
  refine .inr ⟨_, rfl, ?_⟩
  simp only [x_then_panic, x_block_panic]
  exact gk_dm ⟨rfl, rfl, rfl, trivial⟩ (hD.trans (dnK_b hx (by omega))) ((St.only (M := [_, _, _]) hS).eqv hb74)
 simp only [NN, reduceCtorEq] at c69
 have hD := hD.trans (dnK_0 hx (by omega))
 refine gc_skip (hK8 _ _ (gc_seq fun K10 hK10 => gc_seq fun K11 hK11 => gc_region (Zp rfl (Zp rfl (gl_nil (hK11 _ _ (gc_block ?_)))))))
 have hk64 : k ≤ 64 := by omega
 refine gc_loop (fun kk a' w' => ∃ (i : Nat) (a sum : Int) (Ls : List Ly) (xs : List Lx) (Ss : List Sh) (AL As : Option Addr) (cL cs : Nat) (K : Nat → Prop) (wk : World), Fr ⟨91, dnD g3 g4⟩ a' [(2, .pointer (some ⟨g2, 0, none⟩)), (3, .pointer (some ⟨g3, 0, none⟩)), (4, .pointer (some ⟨g4, 0, none⟩)), (5, .pointer (some ⟨gc, 0, none⟩)), (75, .int .i64 (k : Nat)), (76, .int .i64 (i : Nat))] ∧ i ≤ k ∧ kk = k + 1 - i ∧ xs.length = i ∧ Ss.length = xs.length + 1 ∧ (∀ s ∈ Ss, s.ok) ∧ (0 ≤ sum ∧ sum ≤ 65536) ∧ (0 ≤ a ∧ a ≤ l.length) ∧ (∀ x ∈ xs, wtsV x ≤ 65536) ∧
  Lys wk K Ls xs ∧ decNetV l = dnGo l s0 (k - i) xs Ss sum a ∧ St w.heap.size w w' [.blk gc 64 (nrX A l.length c (a) s0 (.slice AL Ls.length cL) (.slice none 0 0) (.slice As Ss.length cs) (sum)), .row As cs 27 3 Ss.length (Ss.map shC).flatten, .row AL cL 48 14 Ls.length (Ls.map lyC).flatten, .keep K wk, .blk g2 31 zN, .blk g3 32 [.int .i64 0], .blk g4 3 [.int .i64 0]]) (k + 1) ?_ ?_ ?_
 ·intro a' ha
  exact ⟨0, a4, 0, [], [], [s0], none, As, 0, cs, K, wk, ha.sub ⟨rfl, rfl, rfl, rfl, rfl, rfl, trivial⟩, by omega, by omega, rfl, rfl, (fun s hs => by rw [List.mem_singleton.1 hs]; exact hso), ⟨by decide, by decide⟩, by omega, (fun x hx => by cases hx), ⟨rfl, fun i L x h => by simp at h⟩, hD, hS⟩
 ·rintro a' w' ⟨i, _, _, _, _, _, _, _, _, _, _, _, _, h1, h2, _⟩; omega
 clear hS hD
 rintro kk a' w1 ⟨i, a, sum, Ls, xs, Ss, AL, As, cL, cs, K, wk, hF, hi, hkk, hxi, hSs, hsok, hsum, hab, hwt, hP, hD, hS⟩
 refine gc_of hF ?_
 clear hF
 refine gc_seq fun K12 hK12 => gc_region (Zp rfl (gl_nil (hK12 _ _ (gc_seq fun K13 hK13 => gc_cond rfl rfl (fun c77 => ?_) (fun c77 => ?_)))))
 ·simp only [NN, reduceCtorEq] at c77
  refine gc_skip (hK13 _ _ (gc_seq fun K14 hK14 => gc_block (gc_region (Zp rfl (gl_callP rfl rfl rfl rfl Tryz.func24 rfl rfl rfl (codeLayer_calls gc A As AL c cs cL l a sum s0 (.slice none 0 0) Ss Ls xs K wk _ _ hS hr hlen hab hP hSs hsok (by omega) hsum) ?_)))))
  rintro _ w79 (⟨x, y, X, hx, rfl, hS⟩ | ⟨x, o, a', L', AL', cL', As', cs', K', wk', hx, rfl, hP', hoo, hwx, hab', _, hS⟩)
  ·refine .inr ⟨_, rfl, ?_⟩
   simp only [x_then_panic, x_block_panic]
   exact gk_dm (L := []) ⟨rfl, rfl, rfl, trivial⟩ (hD.trans (dnGo_e (k := k - (i + 1)) (by omega) hx)) hS
  refine .inl ⟨_, rfl, ?_⟩
  have hD2 := hD.trans (dnGo_s (k := k - (i + 1)) (by omega) hx)
  refine gl_nil (hK14 _ _ (gc_region (Zi rfl (by omega) ?_)))
  refine Zp rfl (gl_nil ?_)
  intro a9 ha
  refine ⟨i + 1, a', sum + wtsV x, Ls ++ [L'], xs ++ [x], Ss ++ [o], AL', As', cL', cs', K', wk', ha.sub ⟨rfl, rfl, rfl, rfl, rfl, rfl, trivial⟩, by omega, by omega, by rw [List.length_append, hxi]; rfl, by rw [List.length_append, List.length_append, hSs]; rfl, fun s hs => ?_, by omega, hab', fun y hy => ?_, hP', hD2, hS⟩
  ·rcases List.mem_append.1 hs with hs | hs
   ·exact hsok s hs
   rw [List.mem_singleton.1 hs]; exact hoo
  rcases List.mem_append.1 hy with hy | hy
  ·exact hwt y hy
  rw [List.mem_singleton.1 hy]; omega
 simp only [NN, reduceCtorEq] at c77
 have hik : k - i = 0 := by omega
 rw [hik] at hD
 have hD : decNetV l = dnN l s0 xs (sizeV (Ss.getD xs.length zSh)).1 a := hD
 refine gc_exit ?_
 refine hK10 _ _ (gc_cut (fun a' w' => ∃ N b AN cN, Fr ⟨91, dnD g3 g4⟩ a' [(2, .pointer (some ⟨g2, 0, none⟩)), (3, .pointer (some ⟨g3, 0, none⟩)), (4, .pointer (some ⟨g4, 0, none⟩)), (5, .pointer (some ⟨gc, 0, none⟩))] ∧ decNetV l = dnTail l ⟨s0, xs, N⟩ b ∧ (0 ≤ b ∧ b ≤ l.length) ∧ (N.length ≤ 256 ∧ ∀ t ∈ N, t.size ≤ 1048576) ∧ St w.heap.size w w' [.blk gc 64 (nrX A l.length c (b) s0 (.slice AL Ls.length cL) (.slice AN N.length cN) (.slice As Ss.length cs) (sum)), .blk g2 31 zN, .blk g3 32 [.int .i64 0], .blk g4 3 [.int .i64 0], .row As cs 27 3 Ss.length (Ss.map shC).flatten, .row AN cN 9 1 N.length (N.map tV), .row AL cL 48 14 Ls.length (Ls.map lyC).flatten, .keep K wk]) ?_ ?_)
 ·refine gc_region (Zp rfl (gl_callP rfl rfl rfl rfl Tryz.func25 rfl rfl rfl (codeNames_calls gc A As c cs l a sum s0 (.slice AL Ls.length cL) Ss xs _ _ hS hr hc hlen hab hSs hsok (by omega) hU) ?_))
  rintro _ w82 (⟨x, y, X, hx, rfl, hS⟩ | ⟨N, b, AN, cN, hx, rfl, hbb, hNN, hS⟩)
  ·refine .inr ⟨_, rfl, ?_⟩
   simp only [x_then_panic, x_block_panic]
   exact gk_dm (L := []) ⟨rfl, rfl, rfl, trivial⟩ (hD.trans hx) (St.only (M := [_, _]) hS)
  refine .inl ⟨_, rfl, ?_⟩
  have hD := hD.trans hx
  have hS := hS.permute (L' := [.blk gc 64 (nrX A l.length c (b) s0 (.slice AL Ls.length cL) (.slice AN N.length cN) (.slice As Ss.length cs) (sum)), .blk g2 31 zN, .blk g3 32 [.int .i64 0], .blk g4 3 [.int .i64 0], .row As cs 27 3 Ss.length (Ss.map shC).flatten, .row AN cN 9 1 N.length (N.map tV), .row AL cL 48 14 Ls.length (Ls.map lyC).flatten, .keep K wk]) (.cons _ (List.perm_append_comm (l₁ := [_, _, _, _]) (l₂ := [_, _, _])))
  refine gl_nil ?_
  intro a' ha
  exact ⟨N, b, AN, cN, ha.sub ⟨rfl, rfl, rfl, rfl, trivial⟩, hD, hbb, hNN, hS⟩
 rintro a' w1 ⟨N, b, AN, cN, hF, hD, hbb, hNN, hS⟩
 refine gc_of hF ?_
 clear hF
 refine gc_seq fun K15 hK15 => gc_region (Zp rfl (Zp rfl (Zf 0 Tryz.underlying64 rfl el61 (gl_callP rfl rfl rfl rfl Tryz.func26 rfl rfl rfl (cTail_calls gc _ A l.length c l b _ _ _ hS hr rfl hc hlen hbb) ?_))))
 rintro _ w86 (⟨x, y, hx, rfl, hS⟩ | ⟨hx, rfl, hS⟩)
 ·refine .inr ⟨_, rfl, ?_⟩
  simp only [x_then_panic, x_block_panic]
  exact gk_dm ⟨rfl, rfl, rfl, trivial⟩ (hD.trans (dnTail_t hx)) hS
 refine .inl ⟨_, rfl, ?_⟩
 have hD := hD.trans (dnTail_0 hx)
 refine gl_nil (hK15 _ _ (gc_seq fun K16 hK16 => gc_region (Zp rfl (Zp rfl (Zf 2 Tryz.underlying64 rfl el31 (Zg 0 Tryz.underlying31 el31 hS rfl (gl_storeM 1 hS el31 rfl rfl rfl rfl rfl rfl rfl rfl rfl fun w_260 hS => ?_)))))))
 refine gl_store 2 hS el32.cellsOf.1 el32.cellsOf.2 rfl rfl rfl rfl rfl rfl rfl rfl fun w_260 hS => ?_
 refine gl_store 3 hS el3.cellsOf.1 el3.cellsOf.2 rfl rfl rfl rfl rfl rfl rfl rfl fun w_260 hS => ?_
 refine gl_nil (hK16 _ _ (gc_ret ?_))
 have hS : St w.heap.size w _ (.blk gc 64 (nrX A l.length c (b) s0 (.slice AL Ls.length cL) (.slice AN N.length cN) (.slice As Ss.length cs) (sum)) :: dnL g2 g3 g4 (ntC s0 (AL, Ls.length, cL) (AN, N.length, cN)) 0 0 ++ [.row As cs 27 3 Ss.length (Ss.map shC).flatten, .row AN cN 9 1 N.length (N.map tV), .row AL cL 48 14 Ls.length (Ls.map lyC).flatten, .keep K wk]) := hS
 refine gk_dnret rfl ⟨rfl, rfl, rfl, trivial⟩ hS ?_
 refine .inr ⟨⟨s0, xs, N⟩, AL, cL, AN, cN, Ls, _, hD, rfl, hS.keepAll, ⟨⟨hS.rowRd (i := 6) rfl (keep_mem (.tail _ (.tail _ (.tail _ (.tail _ (.tail _ (.tail _ (.head _)))))))), fun _ => rfl⟩, hP.lift fun h => (hS.keepRd (i := 7) rfl h).weaken (keep_mem (x := .keep K wk) (.tail _ (.tail _ (.tail _ (.tail _ (.tail _ (.tail _ (.tail _ (.head _))))))))),
  hS.rowRd (i := 5) rfl (keep_mem (.tail _ (.tail _ (.tail _ (.tail _ (.tail _ (.head _))))))), by show xs.length ≤ 64; omega, hNN.1, hNN.2, hwt, hso⟩⟩
end Go.Proofs.YtnomlloaahoceaaGreatDoor
