/- Contracts of functions that CodeNetBytes reaches, and words to say them. No condition. -/
import Derived.Test.YtnomlloaahoceaaGreatDoorZ26
import Derived.Test.YtnomlloaahoceaaGreatDoorZ29
import Derived.Test.YtnomlloaahoceaaGreatDoorZ03
/- Contracts of package ambitref8: a network read from bytes. No condition. -/
namespace Go.Proofs.YtnomlloaahoceaaGreatDoor
open Go.RowKit
set_option linter.unusedVariables false
set_option linter.unusedSimpArgs false
def Lsu (w : World) (ok : Nat → Prop) (Ls : List Ly) (xs : List Lx) : Prop := Ls.length = xs.length ∧ ∀ (i : Nat) L x, Ls[i]? = some L → xs[i]? = some x → LyU w ok ⟨L, x.lw, x.lb, x.lz, x.lzb⟩ ∧ bare L = x.L
theorem LyU.lift {w w' : World} {ok ok' : Nat → Prop} {x : Lx} (h : LyU w ok x) (hl : ∀ {A : Option Addr} {n sz : Nat} {cs : List Value}, Rd w ok A n sz cs → Rd w' ok' A n sz cs) : LyU w' ok' x :=
 ⟨h.okL, hl h.rW, h.nW, hl h.rB, h.nB, ⟨hl h.rZ.1, h.rZ.2⟩, h.nZ, ⟨hl h.rZB.1, h.rZB.2⟩, h.nZB⟩
theorem Lsu.lift {w w' : World} {ok ok' : Nat → Prop} {Ls : List Ly} {xs : List Lx} (h : Lsu w ok Ls xs) (hl : ∀ {A : Option Addr} {n sz : Nat} {cs : List Value}, Rd w ok A n sz cs → Rd w' ok' A n sz cs) : Lsu w' ok' Ls xs :=
 ⟨h.1, fun i L x h1 h2 => ⟨(h.2 i L x h1 h2).1.lift hl, (h.2 i L x h1 h2).2⟩⟩
theorem Lsu.snoc {w : World} {ok : Nat → Prop} {Ls : List Ly} {xs : List Lx} {L : Ly} {x : Lx} (h : Lsu w ok Ls xs) (h1 : LyU w ok ⟨L, x.lw, x.lb, x.lz, x.lzb⟩) (h2 : bare L = x.L) : Lsu w ok (Ls ++ [L]) (xs ++ [x]) := by
 refine ⟨by simp [h.1], fun i y m hy hm => ?_⟩
 have hl := h.1
 rcases snoc_get hy with ⟨hy, hi⟩ | ⟨hi, rfl⟩ <;> rcases snoc_get hm with ⟨hm, hi2⟩ | ⟨hi2, rfl⟩
 ·exact h.2 i y m hy hm
 ·omega
 ·omega
 exact ⟨h1, h2⟩
def wsumL : List Lx → Int
 | [] => 0
 | x :: r => wtsV x + wsumL r
theorem wsumL_snoc (xs : List Lx) (x : Lx) : wsumL (xs ++ [x]) = wsumL xs + wtsV x := by
 induction xs with
 | nil => show wtsV x + 0 = 0 + wtsV x; omega
 | cons y r ih => show wtsV y + wsumL (r ++ [x]) = wtsV y + wsumL r + wtsV x; rw [ih]; omega
def lwt (L : Ly) : Int := (L.W.2.1 : Int) + L.B.2.1 + 2 * L.Z.2.1 + 2 * L.ZB.2.1
def lsum : List Ly → Int
 | [] => 0
 | L :: r => lwt L + lsum r
theorem lsum_take {Ls : List Ly} {i : Nat} {L : Ly} (h : Ls[i]? = some L) : lsum (Ls.take (i + 1)) = lsum (Ls.take i) + lwt L := by
 rw [List.take_add_one, h]
 show lsum (Ls.take i ++ [L]) = _
 induction Ls.take i with
 | nil => show lwt L + 0 = 0 + lwt L; omega
 | cons y r ih => show lwt y + lsum (r ++ [L]) = lwt y + lsum r + lwt L; rw [ih]; omega
theorem lwt_wts {w : World} {ok : Nat → Prop} {L : Ly} {x : Lx} (h : LyU w ok ⟨L, x.lw, x.lb, x.lz, x.lzb⟩) : lwt L = wtsV x := by
 have h1 := h.nW
 have h2 := h.nB
 have h3 := h.nZ
 have h4 := h.nZB
 simp only at h1 h2 h3 h4
 unfold lwt wtsV
 rw [h1, h2, h3, h4]
 omega
theorem lsum_wsum {w : World} {ok : Nat → Prop} : ∀ {Ls : List Ly} {xs : List Lx}, Lsu w ok Ls xs → lsum Ls = wsumL xs
 | [], [], _ => rfl
 | L :: r, x :: q, h => by
  have h0 := (h.2 0 L x rfl rfl).1
  have h1 : Lsu w ok r q := ⟨by have := h.1; simp at this; exact this, fun i L x a b => h.2 (i + 1) L x a b⟩
  show lwt L + lsum r = wtsV x + wsumL q
  rw [lwt_wts h0, lsum_wsum h1]
 | [], x :: q, h => by have := h.1; simp at this
 | L :: r, [], h => by have := h.1; simp at this
theorem weight_calls (L : Ly) (w : World) (hb : 0 ≤ lwt L ∧ lwt L ≤ 65536) : Calls Tryz.prog 60 ⟨[.agg ⟨rlC L⟩]⟩ w fun e w' => e = .returned (.int .i64 (lwt L)) ∧ Below w.heap.size w w' := by
 unfold lwt at hb ⊢
 refine gc_enter (N := 20) Tryz.func60 rfl rfl rfl [(0, _)] rfl ?_
 have hS := St.start w
 refine gc_seq fun K1 hK1 => gc_region (gl_box hS rfl rfl rfl rfl rfl fun g1 w1 hS => ?_)
 refine Zp rfl (gl_nil (hK1 _ _ (gc_seq fun K2 hK2 => gc_region (Zf 10 Tryz.underlying81 rfl el78 (Zb 0 hS rfl (Zp rfl (Zf 11 Tryz.underlying81 rfl el78 (Zb 0 hS rfl (Zp rfl (Zi rfl (by omega) ?_))))))))))
 refine Zf 12 Tryz.underlying81 rfl el79 (Zb 0 hS rfl (Zp rfl (Zi rfl (by omega) ?_)))
 refine Zi rfl (by omega) ?_
 refine Zf 13 Tryz.underlying81 rfl el79 (Zb 0 hS rfl (Zp rfl (Zi rfl (by omega) ?_)))
 refine Zi rfl (by omega) ?_
 refine Zp rfl (gl_nil (hK2 _ _ (gc_ret (gk_ret1 rfl rfl ?_))))
 exact ⟨rfl, hS.below⟩
theorem weights6_calls (s0 : Sh) (AL : Option Addr) (cL : Nat) (Ls : List Ly) (ns : Sv) (w : World) {ok : Nat → Prop} (hrd : RdS w ok rlC 14 AL Ls) (hb : ∀ L ∈ Ls, 0 ≤ lwt L ∧ lwt L ≤ 65536) (hl : Ls.length ≤ 65) :
 Calls Tryz.prog 32 ⟨[.agg ⟨ntC s0 (AL, Ls.length, cL) ns⟩]⟩ w fun e w' => e = .returned (.int .i64 (lsum Ls)) ∧ Below w.heap.size w w' := by
 refine gc_enter (N := 21) Tryz.func32 rfl rfl rfl [(0, _)] rfl ?_
 have hS := St.start w
 refine gc_seq fun K1 hK1 => gc_region (gl_box hS rfl rfl rfl rfl rfl fun g1 w1 hS => ?_)
 refine Zp rfl (gl_nil (hK1 _ _ (gc_seq fun K2 hK2 => gc_region (Zp rfl (gl_nil (hK2 _ _ (gc_seq fun K3 hK3 => gc_seq fun K4 hK4 => gc_region (Zp rfl (gl_nil (hK4 _ _ (gc_block (gc_loop (fun kk a' w' => ∃ i : Nat, Fr 21 a' [(1, .pointer (some ⟨g1, 0, none⟩)), (3, .int .i64 (lsum (Ls.take i))), (4, .int .i64 (i : Nat))] ∧ i ≤ Ls.length ∧ kk = Ls.length + 1 - i ∧ (0 ≤ lsum (Ls.take i) ∧ lsum (Ls.take i) ≤ 65536 * i) ∧ St w.heap.size w w' [.blk g1 37 (ntC s0 (AL, Ls.length, cL) ns)]) (Ls.length + 1) ?_ ?_ ?_))))))))))))
 ·intro a' ha; exact ⟨0, ha.sub ⟨rfl, rfl, rfl, trivial⟩, by omega, by omega, ⟨Int.le_refl 0, Int.le_refl 0⟩, hS⟩
 ·rintro a' w' ⟨i, _, h1, h2, _⟩; omega
 clear hS
 rintro kk a' w1 ⟨i, hF, hi, hk, hsb, hS⟩
 refine gc_of hF ?_
 clear hF
 refine gc_seq fun K5 hK5 => gc_seq fun K6 hK6 => gc_region (Zp rfl (Zf 3 Tryz.underlying37 rfl el35 (Zb 0 hS rfl (Zp rfl (Zp rfl (gl_nil (hK6 _ _ (gc_cond rfl rfl (fun c9 => ?_) (fun c9 => ?_)))))))))
 ·simp only [NN, reduceCtorEq] at c9
  refine gc_skip (hK5 _ _ (gc_seq fun K7 hK7 => gc_block (gc_region (Zp rfl (Zf 3 Tryz.underlying37 rfl el35 (Zb 0 hS rfl (Zp rfl ?_)))))))
  have hil : i < Ls.length := by omega
  obtain ⟨L, hL⟩ : ∃ L, Ls[i]? = some L := ⟨_, List.getElem?_eq_getElem hil⟩
  have hLb := hb L (List.mem_of_getElem? hL)
  have htk := lsum_take hL
  obtain ⟨ad, hA, hcl⟩ := RdS.at (RdS.old hrd (by decide) hS) hL
  refine gl_op rfl rfl rfl (op_indexAddr hT rfl rfl el81.cellsOf.1 el81.cellsOf.2 rfl rfl (by omega) (by omega) hA) ?_
  refine gl_spell 16 (v := .pointer (some (ad.add (i * 14)))) rfl (by rw [Int.toNat_natCast]) ?_
  refine gl_op rfl rfl rfl (op_loadS Tryz.underlying81 rfl el81 rfl rfl hcl rfl) ?_
  refine gl_callf rfl rfl rfl rfl Tryz.func60 rfl rfl rfl (weight_calls L _ hLb) ?_
  rintro _ w18 ⟨rfl, hb18⟩
  refine ⟨_, rfl, ?_⟩
  have hS := hS.grown hb18
  refine Zi rfl (by omega) ?_
  refine Zp rfl (gl_nil (hK7 _ _ (gc_region (Zp rfl (Zi rfl (by omega) ?_)))))
  refine Zp rfl (gl_nil ?_)
  intro a' ha
  exact ⟨i + 1, ha.sub ⟨rfl, by rw [htk]; rfl, rfl, trivial⟩, by omega, by omega, by omega, hS⟩
 simp only [NN, reduceCtorEq] at c9
 refine gc_exit ?_
 refine hK3 _ _ (gc_seq fun K8 hK8 => gc_region (Zp rfl (Zp rfl (gl_nil (hK8 _ _ (gc_ret ?_))))))
 simp only [XR]
 refine gk_ret1 rfl rfl ?_
 have hie : i = Ls.length := by omega
 subst hie
 exact ⟨by rw [List.take_length], hS.below⟩
theorem outV_bare (L : Ly) (s : Sh) : outV (bare L) s = outV L s := by cases L; rfl
structure NtU (w : World) (ok : Nat → Prop) (AL AN : Option Addr) (Ls : List Ly) (q : Nx) : Prop where
 rL : RdS w ok rlC 14 AL Ls
 ly : Lsu w ok Ls q.xs
 rN : RdE w ok tV AN q.ns
def drR2 (l : List UInt8) (w : World) (e : Ending) (w' : World) : Prop := (∃ x y, decNetV l = .error (x, y) ∧ e = .returned (.tuple #[.agg ⟨zN⟩, .int .i64 x, .int .i64 y]) ∧ Below w.heap.size w w') ∨
 (∃ q AL cL AN cN Ls K, decNetV l = .ok q ∧ e = .returned (.tuple #[.agg ⟨ntC q.s (AL, Ls.length, cL) (AN, q.ns.length, cN)⟩, .int .i64 0, .int .i64 0]) ∧ St w.heap.size w w' [.keep K w'] ∧ NtU w' K AL AN Ls q)
set_option maxHeartbeats 16000000 in
set_option maxRecDepth 100000 in
theorem rDecodeNet_calls (A : Option Addr) (n0 c : Nat) (l : List UInt8) (w : World) {ok : Nat → Prop} (h1 : RdE w ok uB A l) (hn : n0 = l.length) (hc : n0 ≤ c) (hb1 : l.length ≤ 4611686018427387904) :
 Calls Tryz.prog 8 ⟨[.slice A n0 c]⟩ w (drR2 l w) := by
 subst hn
 have hb : l.length ≤ 4611686018427387904 := hb1
 have hr : Rdb w.heap.size w ok A l := fun hS => h1.old hS
 refine gc_enter (N := 134) Tryz.func8 rfl rfl rfl [(0, _)] rfl ?_
 have hS := St.start w
 refine gc_seq fun K1 hK1 => gc_region (gl_alloc el37 hS rfl rfl rfl rfl fun g2 w2 hS => ?_)
 refine Zp rfl (Zp rfl (gl_nil (hK1 _ _ (gc_cut (fun a w' => ∃ g2 gc, Fr 134 a [(2, .pointer (some ⟨g2, 0, none⟩)), (5, .pointer (some ⟨gc, 0, none⟩))] ∧ St w.heap.size w w' [.blk gc 72 (rsC A l.length c (⟨0, 0, 0⟩)), .blk g2 37 zN]) ?_ ?_))))
 ·refine gc_region (Zp rfl (gl_op rfl rfl rfl (op_buildG rfl plan72 rfl rfl) ?_))
  refine gl_box hS rfl rfl rfl rfl rfl fun g19 w19 hS => ?_
  refine Zp rfl (gl_nil ?_)
  intro a ha
  refine ⟨g2, g19, ha.sub ⟨rfl, rfl, trivial⟩, ?_⟩
  exact hS.permute (List.perm_append_comm (l₁ := [_]) (l₂ := [_]))
 rintro a w1 ⟨g2, gc, hF, hS⟩
 refine gc_of hF ?_
 clear hF
 refine gc_seq fun K2 hK2 => gc_region (Zp rfl (gl_callf rfl rfl rfl rfl Tryz.func27 rfl rfl rfl (rdHeadN_calls gc _ A c l _ _ hS hr hc hb) ?_))
 rintro _ w21 ⟨rfl, hS⟩
 refine ⟨_, rfl, ?_⟩
 have hL := lvgH l
 have hHa : 0 ≤ (rsH [65, 77, 66, 78] l).a := by unfold rsH; split <;> first | exact Int.le_refl 0 | exact (show (0 : Int) ≤ 5 by decide)
 have hH5 := rsHN_live l
 generalize rsH [65, 77, 66, 78] l = s1 at hS hL hHa hH5
 have hL : LvG (decNetV l) s1 (match rU l s1.a with | .error x => .error x | .ok (v, a) => dnS1 l v a) := ⟨fun he => (hL.1 he).trans (by rw [(hH5 he).1]; rfl), hL.2⟩
 refine gl_nil (hK2 _ _ (gc_seq fun K3 hK3 => gc_region (gl_op rfl rfl rfl (op_buildG rfl plan37 rfl rfl) ?_)))
 refine gl_alloc el37 hS rfl rfl rfl rfl fun g6 w6 hS => ?_
 refine gl_storeM 2 hS el37 rfl rfl rfl rfl rfl rfl rfl rfl rfl fun w_252 hS => ?_
 refine gl_nil (hK3 _ _ (gc_seq fun K4 hK4 => gc_region (Zp rfl (gl_callf rfl rfl rfl rfl Tryz.func28 rfl rfl rfl (rdUint_calls gc _ A c l s1 _ _ hS hr hb) ?_))))
 rintro _ w24 ⟨rfl, hS⟩
 refine ⟨_, rfl, ?_⟩
 have hU24 := rsU_ok l s1
 have hL := lvgU (f := fun v a => dnS1 l v a) hL
 generalize rsU l s1 = q at hS hL hU24 ⊢
 obtain ⟨sc, s2⟩ := q
 simp only at hS hL hU24 ⊢
 refine Zf 0 Tryz.underlying37 rfl el27 (Zf 0 Tryz.underlying27 rfl el3 (gl_store 2 hS el3.cellsOf.1 el3.cellsOf.2 rfl rfl rfl rfl rfl rfl rfl rfl fun w_253 hS => ?_))
 refine gl_nil (hK4 _ _ (gc_seq fun K5 hK5 => gc_region (Zp rfl (gl_callf rfl rfl rfl rfl Tryz.func28 rfl rfl rfl (rdUint_calls gc _ A c l s2 _ _ hS hr hb) ?_))))
 rintro _ w28 ⟨rfl, hS⟩
 refine ⟨_, rfl, ?_⟩
 have hU28 := rsU_ok l s2
 have hL := lvgU (f := fun v a => dnS2 l sc v a) hL
 generalize rsU l s2 = q at hS hL hU28 ⊢
 obtain ⟨sh, s3⟩ := q
 simp only at hS hL hU28 ⊢
 refine Zf 0 Tryz.underlying37 rfl el27 (Zf 1 Tryz.underlying27 rfl el3 (gl_store 2 hS el3.cellsOf.1 el3.cellsOf.2 rfl rfl rfl rfl rfl rfl rfl rfl fun w_254 hS => ?_))
 refine gl_nil (hK5 _ _ (gc_cut (fun a w' => ∃ (s0 : Sh) (s4 : RS) (g6 : Nat), Fr 134 a [(2, .pointer (some ⟨g2, 0, none⟩)), (5, .pointer (some ⟨gc, 0, none⟩)), (6, .pointer (some ⟨g6, 0, none⟩))] ∧ s0.ok ∧ 0 ≤ s4.a ∧ (s4.e = 0 → s4.a ≤ l.length ∧ l.length ≤ 1048576) ∧ LvG (decNetV l) s4 (dnS3 l s0 s4.a) ∧ St w.heap.size w w' [.blk gc 72 (rsC A l.length c (s4)), .blk g2 37 zN, .blk g6 37 (ntC (s0) (nilS) (nilS))]) ?_ ?_))
 ·refine gc_region (Zp rfl (gl_callf rfl rfl rfl rfl Tryz.func28 rfl rfl rfl (rdUint_calls gc _ A c l s3 _ _ hS hr hb) ?_))
  rintro _ w32 ⟨rfl, hS⟩
  refine ⟨_, rfl, ?_⟩
  have hU32 := rsU_ok l s3
  have hL := lvgU (f := fun v a => dnS3 l ⟨sc, sh, v⟩ a) hL
  generalize rsU l s3 = q at hS hL hU32 ⊢
  obtain ⟨sw, s4⟩ := q
  simp only at hS hL hU32 ⊢
  refine Zf 0 Tryz.underlying37 rfl el27 (Zf 2 Tryz.underlying27 rfl el3 (gl_store 2 hS el3.cellsOf.1 el3.cellsOf.2 rfl rfl rfl rfl rfl rfl rfl rfl fun w_255 hS => ?_))
  refine gl_nil ?_
  intro a ha
  refine ⟨⟨sc, sh, sw⟩, s4, g6, ha.sub ⟨rfl, rfl, rfl, trivial⟩, ⟨⟨by show _ ≤ sc; omega, by show sc ≤ _; omega⟩, ⟨by show _ ≤ sh; omega, by show sh ≤ _; omega⟩, ⟨by show _ ≤ sw; omega, by show sw ≤ _; omega⟩⟩, hU32.2.2.2 (hU28.2.2.2 (hU24.2.2.2 hHa)), fun h => ?_, hL, hS⟩
  have k3 := hU32.2.2.1 h
  have k2 := hU28.2.2.1 k3.1
  have k1 := hU24.2.2.1 k2.1
  have k0 := hH5 k1.1
  omega
 clear hL hH5 hHa hU24 hU28
 rintro a w1 ⟨s0, s4, g6, hF, hso, hsa4, hsl4, hL, hS⟩
 refine gc_of hF ?_
 clear hF
 refine gc_seq fun K6 hK6 => gc_region (Zp rfl (gl_nil (hK6 _ _ (gc_cut (fun a w' => ∃ (s5 : RS) (width : Int), Fr 134 a [(2, .pointer (some ⟨g2, 0, none⟩)), (5, .pointer (some ⟨gc, 0, none⟩)), (6, .pointer (some ⟨g6, 0, none⟩)), (7, .int .i64 width)] ∧ 0 ≤ s5.a ∧ (s5.e = 0 → s5.a ≤ l.length ∧ l.length ≤ 1048576 ∧ width = (sizeV s0).1) ∧ LvG (decNetV l) s5 (dnK l s0 s5.a) ∧ St w.heap.size w w' [.blk gc 72 (rsC A l.length c (s5)), .blk g2 37 zN, .blk g6 37 (ntC (s0) (nilS) (nilS))]) ?_ ?_))))
 ·refine gc_seq fun K7 hK7 => gc_region (Zp rfl (Zp rfl (Zf 2 Tryz.underlying72 rfl el3 (Zb 0 hS rfl (Zp rfl (gl_nil (hK7 _ _ (gc_cond rfl rfl (fun c39 => ?_) (fun c39 => ?_)))))))))
  ·simp only [NN, reduceCtorEq] at c39
   refine gc_seq fun K8 hK8 => gc_region (Zf 0 Tryz.underlying37 rfl el27 (Zg 2 Tryz.underlying27 el27 hS rfl (gl_callf rfl rfl rfl rfl Tryz.func29 rfl rfl rfl (fSize_calls s0 _ hso) ?_)))
   rintro _ w43 ⟨rfl, hb43⟩
   refine ⟨_, rfl, ?_⟩
   have hS := hS.grown hb43
   refine Zp rfl (Zp rfl (Zp rfl (Zp rfl (Zp rfl (gl_nil (hK8 _ _ (gc_seq fun K9 hK9 => gc_region (Zp rfl (Zp rfl (gl_callf rfl rfl rfl rfl Tryz.func30 rfl rfl rfl (rdFail_calls gc _ A l.length c s4 (sizeV s0).2 5 _ _ hS) ?_))))))))))
   rintro _ w48 ⟨rfl, hS⟩
   refine ⟨_, rfl, ?_⟩
   refine gl_nil (hK9 _ _ (gc_region (Zp rfl (Zp rfl (gl_nil ?_)))))
   intro a ha
   refine ⟨s4.fl (sizeV s0).2 5, (sizeV s0).1, ha.sub ⟨rfl, rfl, rfl, rfl, trivial⟩, by rw [fl_a]; exact hsa4, fun h => ?_, ?_, hS⟩
   ·rw [fl_a]
    exact ⟨(hsl4 (fl_live h)).1, (hsl4 (fl_live h)).2, rfl⟩
   rw [fl_a]
   exact lvgE hL (fun _ hx => dnS3_b hx) (fun _ hx => dnS3_0 (fun h => h hx))
  simp only [NN, reduceCtorEq] at c39
  refine gc_skip ?_
  intro a ha
  exact ⟨s4, 0, ha.sub ⟨rfl, rfl, rfl, rfl, trivial⟩, hsa4, fun h => absurd h (by omega), hL.dead (by omega), hS⟩
 clear hL hsl4
 rintro a w1 ⟨s5, width, hF, hsa5, hsl5, hL, hS⟩
 refine gc_of hF ?_
 clear hF
 refine gc_seq fun K10 hK10 => gc_region (Zp rfl (Zp rfl (Zf 1 Tryz.underlying72 rfl el3 (Zb 0 hS rfl (Zp rfl (gl_nil (hK10 _ _ (gc_seq fun K11 hK11 => gc_region (Zp rfl (gl_callf rfl rfl rfl rfl Tryz.func28 rfl rfl rfl (rdUint_calls gc _ A c l s5 _ _ hS hr hb) ?_))))))))))
 rintro _ w55 ⟨rfl, hS⟩
 refine ⟨_, rfl, ?_⟩
 have hU55 := rsU_ok l s5
 have hL := lvgU (f := fun k a => if 64 < k then .error (65, s5.a) else dnGo l s0 k.toNat [] [s0] 0 a) hL
 generalize rsU l s5 = q at hS hL hU55 ⊢
 obtain ⟨n9, s6⟩ := q
 simp only at hS hL hU55 ⊢
 obtain ⟨n, rfl⟩ : ∃ n : Nat, n9 = n := ⟨n9.toNat, by omega⟩
 rw [Int.toNat_natCast] at hL
 have hLs := lvgI (l := l) (by decide : (65 : Int) ≠ 0) hL
 refine Zp rfl (gl_nil (hK11 _ _ (gc_cut (fun a w' => ∃ (s7 : RS), Fr 134 a [(2, .pointer (some ⟨g2, 0, none⟩)), (5, .pointer (some ⟨gc, 0, none⟩)), (6, .pointer (some ⟨g6, 0, none⟩)), (7, .int .i64 width), (11, .int .i64 (n : Nat))] ∧ 0 ≤ s7.a ∧ (s7.e = 0 → s7.a ≤ l.length ∧ l.length ≤ 1048576 ∧ width = (sizeV s0).1 ∧ n ≤ 64) ∧ LvG (decNetV l) s7 (dnGo l s0 n [] [s0] 0 s7.a) ∧ St w.heap.size w w' [.blk gc 72 (rsC A l.length c (s7)), .blk g2 37 zN, .blk g6 37 (ntC (s0) (nilS) (nilS))]) ?_ ?_)))
 ·refine gc_seq fun K12 hK12 => gc_region (Zp rfl (Zp rfl (gl_nil (hK12 _ _ (gc_cond rfl rfl (fun c57 => ?_) (fun c57 => ?_))))))
  ·simp only [NN, reduceCtorEq] at c57
   refine gc_region (Zp rfl (Zp rfl (gl_callf rfl rfl rfl rfl Tryz.func30 rfl rfl rfl (rdFail_calls gc _ A l.length c s6 65 s5.a _ _ hS) ?_)))
   rintro _ w60 ⟨rfl, hS⟩
   refine ⟨_, rfl, ?_⟩
   refine gl_nil ?_
   intro a ha
   have hs6 : s6.e = 0 → s6.a ≤ l.length ∧ l.length ≤ 1048576 ∧ width = (sizeV s0).1 := fun h => by
    have k1 := hU55.2.2.1 h
    have k2 := hsl5 k1.1
    exact ⟨k1.2.2, k2.2.1, k2.2.2⟩
   have hbig : 64 < (n : Int) := by omega
   refine ⟨s6.fl 65 s5.a, ha.sub ⟨rfl, rfl, rfl, rfl, rfl, trivial⟩, (by rw [fl_a]; exact hU55.2.2.2 hsa5), (fun h => ?_), ?_, hS⟩
   ·have h5 := fl_live h
    unfold RS.fl at h
    rw [if_pos ⟨h5, by decide⟩] at h
    exact absurd h (show ¬ (65 : Int) = 0 by decide)
   by_cases h5 : s6.e = 0
   ·exact hLs.1 ⟨h5, hbig⟩ _
   have h6 : s6.fl 65 s5.a = s6 := by unfold RS.fl; rw [if_neg (fun h6 => h5 h6.1)]
   rw [h6]
   exact hL.dead h5
  simp only [NN, reduceCtorEq] at c57
  refine gc_skip ?_
  intro a ha
  have hs6 : s6.e = 0 → s6.a ≤ l.length ∧ l.length ≤ 1048576 ∧ width = (sizeV s0).1 := fun h => by
   have k1 := hU55.2.2.1 h
   have k2 := hsl5 k1.1
   exact ⟨k1.2.2, k2.2.1, k2.2.2⟩
  exact ⟨s6, ha.sub ⟨rfl, rfl, rfl, rfl, rfl, trivial⟩, hU55.2.2.2 hsa5, (fun h => ⟨(hs6 h).1, (hs6 h).2.1, (hs6 h).2.2, by omega⟩), hLs.2 (fun h => by omega), hS⟩
 clear hL hsl5 hLs hU55
 rintro a w1 ⟨s7, hF, hsa7, hsl7, hL, hS⟩
 refine gc_of hF ?_
 clear hF
 refine gc_seq fun K13 hK13 => gc_region (Zf 0 Tryz.underlying37 rfl el27 (Zg 2 Tryz.underlying27 el27 hS rfl (gl_litS hT hS el27 rfl rfl rfl rfl rfl rfl rfl (by decide) fun g63 w63 hS => ?_)))
 refine Zp rfl (gl_nil (hK13 _ _ (gc_seq fun K14 hK14 => gc_seq fun K15 hK15 => gc_region (Zp rfl (gl_nil (hK15 _ _ (gc_block ?_)))))))
 have hS : St w.heap.size w _ [.blk gc 72 (rsC A l.length c (s7)), .row _ _ 27 3 1 (shC s0), .blk g2 37 zN, .blk g6 37 (ntC (s0) (nilS) (nilS)), .row none 0 81 14 0 [], .keep _ _] := (hS.nil 81 14).keep0.permute (.cons _ ((List.perm_append_comm (l₁ := [_, _]) (l₂ := [_])).append_right [_, _]))
 refine gc_loop (fun kk a' w' => ∃ (m : Nat) (s : RS) (width : Int) (xs : List Lx) (Ls : List Ly) (Ss : List Sh) (AL As : Option Addr) (cL cs : Nat) (K : Nat → Prop) (wk : World), Fr 134 a' [(2, .pointer (some ⟨g2, 0, none⟩)), (5, .pointer (some ⟨gc, 0, none⟩)), (6, .pointer (some ⟨g6, 0, none⟩)), (7, .int .i64 width), (11, .int .i64 (n : Nat)), (12, .slice As Ss.length cs), (13, .int .i64 (m : Nat))] ∧ m ≤ n ∧ kk = n + 1 - m ∧ 0 ≤ s.a ∧ Ls.length ≤ 65 ∧ (s.e = 0 → xs.length = m ∧ Ss.length = m + 1 ∧ (∀ y ∈ Ss, y.ok) ∧ Lsu wk K Ls xs ∧ (0 ≤ wsumL xs ∧ wsumL xs ≤ 65536) ∧ (∀ x ∈ xs, 0 ≤ wtsV x ∧ wtsV x ≤ 65536) ∧ n ≤ 64 ∧ width = (sizeV (Ss.getD m zSh)).1 ∧ s.a ≤ l.length ∧ l.length ≤ 1048576 ∧ decNetV l = dnGo l s0 (n - m) xs Ss (wsumL xs) s.a) ∧ (s.e ≠ 0 → decNetV l = .error (s.e, s.i)) ∧ St w.heap.size w w' [.blk gc 72 (rsC A l.length c (s)), .row As cs 27 3 Ss.length (Ss.map shC).flatten, .blk g2 37 zN, .blk g6 37 (ntC (s0) (AL, Ls.length, cL) (nilS)), .row AL cL 81 14 Ls.length (Ls.map rlC).flatten, .keep K wk]) (n + 1) ?_ ?_ ?_
 ·intro a' ha
  exact ⟨0, s7, width, [], [], [s0], none, _, 0, _, _, _, ha.sub ⟨rfl, rfl, rfl, rfl, rfl, rfl, rfl, trivial⟩, by omega, by omega, hsa7, by decide, fun h => ⟨rfl, rfl, (fun y hy => by rw [List.mem_singleton.1 hy]; exact hso), ⟨rfl, fun i L x h => by simp at h⟩, ⟨by decide, by decide⟩, (fun x hx => by cases hx), (hsl7 h).2.2.2, (hsl7 h).2.2.1, (hsl7 h).1, (hsl7 h).2.1, hL.1 h⟩, hL.2, hS⟩
 ·rintro a' w' ⟨m, _, _, _, _, _, _, _, _, _, _, _, _, h1, h2, _⟩; omega
 clear hS hL hsl7
 rintro kk a' w1 ⟨m, s, width, xs, Ls, Ss, AL, As, cL, cs, K, wk, hF, hm, hkk, hsa, hLs65, hlive, hdead, hS⟩
 refine gc_of hF ?_
 clear hF
 refine gc_seq fun K16 hK16 => gc_seq fun K17 hK17 => gc_region (Zp rfl (Zp rfl (Zp rfl (Zp rfl (gl_split (t := 67) rfl (fun c67 => ?_) (fun c67 => ?_))))))
 ·simp only [NN, reduceCtorEq] at c67
  refine Zu rfl (Zp rfl (Zu rfl (Zp rfl (Zu rfl (Zf 2 Tryz.underlying72 rfl el3 (Zu rfl (Zb 0 hS rfl (Zu rfl (Zp rfl (Zp rfl (gl_nil (hK17 _ _ (gc_cond rfl rfl (fun c73 => ?_) (fun c73 => ?_))))))))))))))
  ·simp only [NN, reduceCtorEq] at c73
   have hse : s.e = 0 := by omega
   obtain ⟨hxm, hSm, hsok, hP, hws, hwx, hn64, hwid, hsl, hlen, hD⟩ := hlive hse
   obtain ⟨s_, hs_⟩ : ∃ x, Ss[m]? = some x := ⟨_, List.getElem?_eq_getElem (by omega)⟩
   have hsg : Ss.getD m zSh = s_ := by rw [List.getD_eq_getElem?_getD, hs_]; rfl
   have hlw := lsum_wsum hP
   have hlb : ∀ L ∈ Ls, 0 ≤ lwt L ∧ lwt L ≤ 65536 := fun L hL => by
    obtain ⟨i, hi⟩ := List.getElem?_of_mem hL
    have hil := (List.getElem?_eq_some_iff.1 hi).1
    have h8 := hP.1
    obtain ⟨x, hx⟩ : ∃ x, xs[i]? = some x := ⟨_, List.getElem?_eq_getElem (by omega)⟩
    rw [lwt_wts (hP.2 i L x hi hx).1]
    exact hwx x (List.mem_of_getElem? hx)
   refine gc_skip (hK16 _ _ (gc_cut (fun a' w' => ∃ (s : RS) (width : Int) (xs : List Lx) (Ls : List Ly) (Ss : List Sh) (AL As : Option Addr) (cL cs : Nat) (K : Nat → Prop) (wk : World), Fr 134 a' [(2, .pointer (some ⟨g2, 0, none⟩)), (5, .pointer (some ⟨gc, 0, none⟩)), (6, .pointer (some ⟨g6, 0, none⟩)), (7, .int .i64 width), (11, .int .i64 (n : Nat)), (12, .slice As Ss.length cs), (13, .int .i64 (m : Nat))] ∧ 0 ≤ s.a ∧ Ls.length ≤ 65 ∧ (s.e = 0 → xs.length = m + 1 ∧ Ss.length = m + 1 + 1 ∧ (∀ y ∈ Ss, y.ok) ∧ Lsu wk K Ls xs ∧ (0 ≤ wsumL xs ∧ wsumL xs ≤ 65536) ∧ (∀ x ∈ xs, 0 ≤ wtsV x ∧ wtsV x ≤ 65536) ∧ n ≤ 64 ∧ width = (sizeV (Ss.getD (m + 1) zSh)).1 ∧ s.a ≤ l.length ∧ l.length ≤ 1048576 ∧ decNetV l = dnGo l s0 (n - (m + 1)) xs Ss (wsumL xs) s.a) ∧ (s.e ≠ 0 → decNetV l = .error (s.e, s.i)) ∧ St w.heap.size w w' [.blk gc 72 (rsC A l.length c (s)), .row As cs 27 3 Ss.length (Ss.map shC).flatten, .blk g2 37 zN, .blk g6 37 (ntC (s0) (AL, Ls.length, cL) (nilS)), .row AL cL 81 14 Ls.length (Ls.map rlC).flatten, .keep K wk]) ?_ ?_))
   ·refine gc_block (gc_cut (fun a' w' => ∃ (s' : RS) (L' : Ly) (K' : Nat → Prop) (wk' : World) (g14 : Nat), Fr 134 a' [(2, .pointer (some ⟨g2, 0, none⟩)), (5, .pointer (some ⟨gc, 0, none⟩)), (6, .pointer (some ⟨g6, 0, none⟩)), (7, .int .i64 width), (11, .int .i64 (n : Nat)), (12, .slice As Ss.length cs), (13, .int .i64 (m : Nat)), (14, .pointer (some ⟨g14, 0, none⟩))] ∧ 0 ≤ s'.a ∧ ((s'.e ≠ 0 ∧ dnLy l Ss m (wsumL xs) s.a = .error (s'.e, s'.i)) ∨ (s'.e = 0 ∧ s'.a ≤ l.length ∧ ∃ x o, dnLy l Ss m (wsumL xs) s.a = .ok (x, o, s'.a) ∧ LyU wk' K' ⟨L', x.lw, x.lb, x.lz, x.lzb⟩ ∧ bare L' = x.L ∧ outV x.L (Ss.getD m zSh) = (o, 0) ∧ o.ok ∧ sizeV o = (o.c * o.h * o.w, 0) ∧ 0 ≤ wtsV x ∧ wsumL xs + wtsV x ≤ 65536)) ∧ St w.heap.size w w' [.blk gc 72 (rsC A l.length c (s')), .row As cs 27 3 Ss.length (Ss.map shC).flatten, .blk g2 37 zN, .blk g6 37 (ntC (s0) (AL, Ls.length, cL) (nilS)), .row AL cL 81 14 Ls.length (Ls.map rlC).flatten, .keep K wk, .keep K' wk', .blk g14 81 (rlC L')]) ?_ ?_)
    ·refine gc_region (Zp rfl (Zp rfl (Zg 3 Tryz.underlying37 el37 hS rfl (gl_callf rfl rfl rfl rfl Tryz.func32 rfl rfl rfl (weights6_calls s0 AL cL Ls nilS _ ⟨hS.rd (i := 4) rfl, fun _ => rfl⟩ hlb hLs65) ?_))))
     rintro _ w79 ⟨rfl, hb79⟩
     refine ⟨_, rfl, ?_⟩
     have hS := hS.grown hb79
     rw [hlw]
     refine gl_callf rfl rfl rfl rfl Tryz.func31 rfl rfl rfl (rdLayer_calls gc A As c cs l s (wsumL xs) s.a Ss m _ _ hS hr hlen hse rfl ⟨hsa, hsl⟩ hSm hsok (by omega) hws) ?_
     rintro _ w80 ⟨s', L', K', wk', rfl, hsa', hpost, hS⟩
     refine ⟨_, rfl, ?_⟩
     have hS := hS.permute (.cons _ (.cons _ (List.perm_append_comm (l₁ := [_]) (l₂ := [_, _, _, _]))))
     refine gl_alloc el81 hS rfl rfl rfl rfl fun g14 w14 hS => ?_
     refine gl_storeM 7 hS el81 rfl rfl rfl rfl rfl rfl rfl rfl rfl fun w_269 hS => ?_
     refine gl_nil ?_
     intro a' ha
     exact ⟨s', L', K', wk', g14, ha.sub ⟨rfl, rfl, rfl, rfl, rfl, rfl, rfl, rfl, trivial⟩, hsa', hpost, hS⟩
    rintro a' w1 ⟨s', L', K', wk', g14, hF, hsa', hpost, hS⟩
    refine gc_of hF ?_
    clear hF
    refine gc_cut (fun a' w' => ∃ (AL : Option Addr) (cL : Nat), Fr 134 a' [(2, .pointer (some ⟨g2, 0, none⟩)), (5, .pointer (some ⟨gc, 0, none⟩)), (6, .pointer (some ⟨g6, 0, none⟩)), (7, .int .i64 width), (11, .int .i64 (n : Nat)), (12, .slice As Ss.length cs), (13, .int .i64 (m : Nat)), (14, .pointer (some ⟨g14, 0, none⟩))] ∧ St w.heap.size w w' [.blk gc 72 (rsC A l.length c (s')), .row As cs 27 3 Ss.length (Ss.map shC).flatten, .blk g2 37 zN, .blk g6 37 (ntC (s0) (AL, (Ls ++ [L']).length, cL) (nilS)), .row AL cL 81 14 (Ls ++ [L']).length ((Ls ++ [L']).map rlC).flatten, .keep K wk, .keep K' wk', .blk g14 81 (rlC L')]) ?_ ?_
    ·refine gc_region (Zf 3 Tryz.underlying37 rfl el35 (Zb 3 hS rfl (Zg 7 Tryz.underlying81 el81 hS rfl (gl_litS hT hS el81 rfl rfl rfl rfl rfl rfl rfl (by decide) fun g84 w84 hS => ?_))))
     refine gl_append 4 hT hS el81 (hS.rd (i := 8) rfl) rfl rfl rfl rfl rfl rfl rfl rfl rfl (by simp only; omega) (by simp only; omega) fun A85 c85 w85 hS => ?_
     refine Zf 3 Tryz.underlying37 rfl el35 (gl_store 3 hS el35.cellsOf.1 el35.cellsOf.2 rfl rfl rfl rfl rfl rfl rfl rfl fun w_270 hS => ?_)
     refine gl_nil ?_
     intro a' ha
     refine ⟨A85, c85, ha.sub ⟨rfl, rfl, rfl, rfl, rfl, rfl, rfl, rfl, trivial⟩, ?_⟩
     rw [List.length_append, flat_snoc]
     exact hS.erase 8
    rintro a' w1 ⟨AL, cL, hF, hS⟩
    refine gc_of hF ?_
    clear hF
    refine gc_seq fun K18 hK18 => gc_region (Zp rfl (Zp rfl (Zf 2 Tryz.underlying72 rfl el3 (Zb 0 hS rfl (Zp rfl (gl_nil (hK18 _ _ (gc_cond rfl rfl (fun c91 => ?_) (fun c91 => ?_)))))))))
    ·simp only [NN, reduceCtorEq] at c91
     have hse' : s'.e = 0 := by omega
     obtain ⟨hsl', x, o, hdl, hLU, hbare, hout, hoo, hosz, hwt0, hwt1⟩ := hpost.resolve_left (fun h => h.1 hse') |>.2
     have hout2 : outV L' s_ = (o, 0) := by rw [← outV_bare, hbare, ← hsg]; exact hout
     have hog := sz_good (sizeV_ok (by rw [hosz] : (sizeV o).2 = 0)).1
     refine gc_cut (fun a' w' => ∃ (g15 : Nat), Fr 134 a' [(2, .pointer (some ⟨g2, 0, none⟩)), (5, .pointer (some ⟨gc, 0, none⟩)), (6, .pointer (some ⟨g6, 0, none⟩)), (7, .int .i64 width), (11, .int .i64 (n : Nat)), (12, .slice As Ss.length cs), (13, .int .i64 (m : Nat)), (15, .pointer (some ⟨g15, 0, none⟩))] ∧ St w.heap.size w w' [.blk gc 72 (rsC A l.length c (s')), .row As cs 27 3 Ss.length (Ss.map shC).flatten, .blk g2 37 zN, .blk g6 37 (ntC (s0) (AL, (Ls ++ [L']).length, cL) (nilS)), .row AL cL 81 14 (Ls ++ [L']).length ((Ls ++ [L']).map rlC).flatten, .keep K wk, .keep K' wk', .blk g14 81 (rlC L'), .blk g15 27 (shC o)]) ?_ ?_
     ·refine gc_anyS hS (by kernel_rfl) rfl fun nq23 hK => ?_
      have hS := hS.dr nq23
      obtain ⟨sa9, hAs⟩ : ∃ sa9, As = some sa9 := by
       obtain ⟨sa9, h, _⟩ := (hS.rd (i := 1) rfl).2 (by omega)
       exact ⟨sa9, h⟩
      subst hAs
      have hAs : (some sa9 : Option Addr) = some sa9 := rfl
      refine ga_take 0 rfl rfl rfl rfl (by kernel_rfl) (fun _ _ _ _ h => h) hK (fun w1 hS => op_loadG 7 Tryz.underlying81 rfl el81 hS rfl rfl rfl rfl rfl) ?_
      refine Yp 1 rfl (by kernel_rfl) (fun _ _ _ _ h => h) hK ?_
      refine Yp 2 rfl (by kernel_rfl) (fun _ _ _ _ h => h) hK ?_
      refine ga_take 3 rfl rfl rfl rfl (by kernel_rfl) (fun _ _ _ _ h => h) hK (fun w1 hS => op_indexAddr hT rfl rfl el27.cellsOf.1 el27.cellsOf.2 rfl rfl (by omega) (by omega) hAs) ?_
      refine ga_spell 96 (v := .pointer (some (sa9.add (m * 3)))) rfl (by rw [Int.toNat_natCast]) ?_
      refine ga_take 4 rfl rfl rfl rfl (by kernel_rfl) (fun _ _ _ _ h => h) hK (fun w1 hS => op_loadS Tryz.underlying27 rfl el27 rfl rfl (exSh (l := Ss) (i := m) hS rfl hs_) rfl) ?_
      refine ga_two 5 9 (by kernel_rfl) rfl rfl ?_ ?_
      ·refine gl_callf rfl rfl rfl rfl Tryz.func33 rfl rfl rfl (fOutW_calls L' s_ _ hLU.okL (hsok s_ (List.mem_of_getElem? hs_))) ?_
       rintro _ w98 ⟨rfl, hb98⟩
       refine ⟨_, rfl, ?_⟩
       have hS := hS.grown hb98
       rw [hout2]
       refine gl_nil (ga_next (hS.pre 8) fun hK => ?_)
       refine Yp 6 rfl (by kernel_rfl) (fun _ _ _ _ h => h) hK ?_
       refine Yp 7 rfl (by kernel_rfl) (fun _ _ _ _ h => h) hK ?_
       refine Yp 8 rfl (by kernel_rfl) (fun _ _ _ _ h => h) hK ?_
       refine ga_one 9 (by kernel_rfl) rfl ?_
       refine gl_alloc el27 hS rfl rfl rfl rfl fun g15 w15 hS => ?_
       refine gl_nil (ga_next (hS.pre 8) fun hK => ?_)
       refine ga_one 10 (by kernel_rfl) rfl ?_
       refine gl_storeM 8 hS el27 rfl rfl rfl rfl rfl rfl rfl rfl rfl fun w_272 hS => ?_
       refine gl_nil (ga_next (hS.pre 8) fun hK => ?_)
       refine Yp 11 rfl (by kernel_rfl) (fun _ _ _ _ h => h) hK ?_
       refine ga_done (by kernel_rfl) ?_
       intro a' ha
       exact ⟨g15, ha.sub ⟨rfl, rfl, rfl, rfl, rfl, rfl, rfl, rfl, trivial⟩, hS⟩
      refine gl_alloc el27 hS rfl rfl rfl rfl fun g15 w15 hS => ?_
      refine gl_nil (ga_next (hS.pre 8) fun hK => ?_)
      refine ga_one 5 (by kernel_rfl) rfl ?_
      refine gl_callf rfl rfl rfl rfl Tryz.func33 rfl rfl rfl (fOutW_calls L' s_ _ hLU.okL (hsok s_ (List.mem_of_getElem? hs_))) ?_
      rintro _ w98 ⟨rfl, hb98⟩
      refine ⟨_, rfl, ?_⟩
      have hS := hS.grown hb98
      rw [hout2]
      refine gl_nil (ga_next (hS.pre 8) fun hK => ?_)
      refine Yp 6 rfl (by kernel_rfl) (fun _ _ _ _ h => h) hK ?_
      refine Yp 7 rfl (by kernel_rfl) (fun _ _ _ _ h => h) hK ?_
      refine Yp 8 rfl (by kernel_rfl) (fun _ _ _ _ h => h) hK ?_
      refine ga_one 10 (by kernel_rfl) rfl ?_
      refine gl_storeM 8 hS el27 rfl rfl rfl rfl rfl rfl rfl rfl rfl fun w_272 hS => ?_
      refine gl_nil (ga_next (hS.pre 8) fun hK => ?_)
      refine Yp 11 rfl (by kernel_rfl) (fun _ _ _ _ h => h) hK ?_
      refine ga_done (by kernel_rfl) ?_
      intro a' ha
      exact ⟨g15, ha.sub ⟨rfl, rfl, rfl, rfl, rfl, rfl, rfl, rfl, trivial⟩, hS⟩
     rintro a' w1 ⟨g15, hF, hS⟩
     refine gc_of hF ?_
     clear hF
     refine gc_seq fun K19 hK19 => gc_region (Zp rfl (Zg 8 Tryz.underlying27 el27 hS rfl (gl_litS hT hS el27 rfl rfl rfl rfl rfl rfl rfl (by decide) fun g103 w103 hS => ?_)))
     refine gl_append 1 hT hS el27 (hS.rd (i := 9) rfl) (shp_one _) rfl rfl rfl rfl rfl rfl rfl rfl (by omega) (by omega) fun A104 c104 w104 hS => ?_
     refine Zp rfl (gl_nil (hK19 _ _ (gc_region (Zf 0 Tryz.underlying27 rfl el3 (Zb 8 hS rfl (Zf 1 Tryz.underlying27 rfl el3 (Zb 8 hS rfl ?_)))))))
     have hm1 := mul_bd (a := o.c) (b := o.h) (A := 256) (B := 256) (by omega) (by omega) (by omega) (by omega)
     refine gl_fit (n := o.c * o.h) hT rfl rfl rfl rfl (by omega) ?_
     refine Zf 2 Tryz.underlying27 rfl el3 (Zb 8 hS rfl (gl_fit (n := o.c * o.h * o.w) hT rfl rfl rfl rfl (by omega) ?_))
     refine Zp rfl (gl_nil ?_)
     intro a' ha
     have hS : St w.heap.size w _ ([_, _, _, _, _] ++ ([_, _, _, _, _] ++ [])) := hS
     have hxl := hP.1
     refine ⟨s', o.c * o.h * o.w, xs ++ [x], Ls ++ [L'], Ss ++ [o], AL, A104, cL, c104, (fun b => ∃ it ∈ ([.keep K wk, .keep K' wk', .blk g14 81 (rlC L'), .blk g15 27 (shC o), .row (some ⟨g103, 0, none⟩) 1 27 3 1 (shC o)] : List It), it.fp b), w104, ha.sub ⟨rfl, rfl, rfl, rfl, rfl, ?_, rfl, trivial⟩, hsa', by rw [List.length_append]; show Ls.length + 1 ≤ 65; omega, fun _ => ⟨by rw [List.length_append, hxm]; rfl, by rw [List.length_append, hSm]; rfl, fun y hy => ?_, ?_, by rw [wsumL_snoc]; omega, fun y hy => ?_, hn64, ?_, hsl', hlen, ?_⟩, fun h => absurd hse' h, ?_⟩
     ·rw [List.length_append]; rfl
     ·rcases List.mem_append.1 hy with hy | hy
      ·exact hsok y hy
      rw [List.mem_singleton.1 hy]; exact hoo
     ·exact (hP.lift fun h => (hS.keepRd (i := 5) rfl h).weaken (keep_mem (x := .keep K wk) (.head _))).snoc (hLU.lift fun h => (hS.keepRd (i := 6) rfl h).weaken (keep_mem (x := .keep K' wk') (.tail _ (.head _)))) hbare
     ·rcases List.mem_append.1 hy with hy | hy
      ·exact hwx y hy
      rw [List.mem_singleton.1 hy]; omega
     ·rw [List.getD_eq_getElem?_getD, List.getElem?_append_right (by omega), hSm, Nat.sub_self]
      show _ = (sizeV o).1
      rw [hosz]
     ·exact hD.trans ((dnGo_s (k := n - (m + 1)) (by omega) (by rw [hxm]; exact hdl)).trans (by rw [wsumL_snoc]))
     rw [List.length_append, flat_snoc]
     exact hS.keepFront
    simp only [NN, reduceCtorEq] at c91
    refine gc_skip ?_
    intro a' ha
    have hse' : s'.e ≠ 0 := by omega
    have hde := (hpost.resolve_right (fun h => hse' h.1)).2
    have hS : St w.heap.size w _ ([_, _, _, _, _] ++ ([_, _, _] ++ [])) := hS
    have hxl := hP.1
    refine ⟨s', width, xs, Ls ++ [L'], Ss, AL, As, cL, cs, _, _, ha.sub ⟨rfl, rfl, rfl, rfl, rfl, rfl, rfl, trivial⟩, hsa', by rw [List.length_append]; show Ls.length + 1 ≤ 65; omega, fun h => absurd h hse', fun _ => hD.trans (dnGo_e (k := n - (m + 1)) (by omega) (by rw [hxm]; exact hde)), hS.keepFront⟩
   rintro a' w1 ⟨s, width, xs, Ls, Ss, AL, As, cL, cs, K, wk, hF, hsa, hLs65, hlive, hdead, hS⟩
   refine gc_of hF ?_
   clear hF
   refine gc_region (Zp rfl (Zi rfl (by omega) ?_))
   refine Zp rfl (gl_nil ?_)
   intro a' ha
   exact ⟨m + 1, s, width, xs, Ls, Ss, AL, As, cL, cs, K, wk, ha.sub ⟨rfl, rfl, rfl, rfl, rfl, rfl, rfl, trivial⟩, by omega, by omega, hsa, hLs65, hlive, hdead, hS⟩
  simp only [NN, reduceCtorEq] at c73
  refine gc_exit ?_
  refine hK14 _ _ (gc_seq fun K20 hK20 => gc_region (Zp rfl (Zp rfl ?_)))
  have hL : LvG (decNetV l) s (dnN l s0 xs width s.a) := by
   refine ⟨fun he => ?_, hdead⟩
   obtain ⟨hxm, hSm, hsok, hP, hws, hwx, hn64, hwid, hsl, hlen, hD⟩ := hlive he
   have e : n - m = 0 := by omega
   rw [e] at hD
   rw [hD, hwid, ← hxm]
   rfl
  refine gl_callf rfl rfl rfl rfl Tryz.func34 rfl rfl rfl (rdNames_calls gc A c l s width s0 xs _ _ hS hr (fun he => (hlive he).2.2.2.2.2.2.2.2.2.1) hb1 hc hsa (fun he => (hlive he).2.2.2.2.2.2.2.2.1) (fun he => by rw [(hlive he).2.2.2.2.2.2.2.1]; exact (sizeV_le _).2) hL) ?_
  rintro _ w115 ⟨s9, N, AN, cN, rfl, hsa9, hs9, hL9, hN9, hS⟩
  refine ⟨_, rfl, ?_⟩
  have hS := hS.permute (.cons _ (List.perm_append_comm (l₁ := [_]) (l₂ := [_, _, _, _, _])))
  refine Zf 4 Tryz.underlying37 rfl el29 (gl_store 3 hS el29.cellsOf.1 el29.cellsOf.2 rfl rfl rfl rfl rfl rfl rfl rfl fun w_277 hS => ?_)
  refine gl_nil (hK20 _ _ (gc_seq fun K21 hK21 => gc_region (Zp rfl (gl_callf rfl rfl rfl rfl Tryz.func35 rfl rfl rfl (rdFoot_calls gc _ A c l s9 _ _ hS hr hc (fun h => (hlive (hs9 h).1).2.2.2.2.2.2.2.2.2.1) (fun h => ⟨hsa9, (hs9 h).2⟩)) ?_))))
  rintro _ w118 ⟨rfl, hS⟩
  refine ⟨_, rfl, ?_⟩
  have hL9 := lvgT (l := l) hL9
  have hse9 := rsT_live l s9
  generalize rsT l s9 = sg at hS hL9 hse9 ⊢
  refine gl_nil (hK21 _ _ (gc_seq fun K22 hK22 => gc_seq fun K23 hK23 => gc_region (Zp rfl (Zp rfl (Zf 2 Tryz.underlying72 rfl el3 (Zb 0 hS rfl (Zp rfl (gl_nil (hK23 _ _ (gc_cond rfl rfl (fun c123 => ?_) (fun c123 => ?_)))))))))))
  ·simp only [NN, reduceCtorEq] at c123
   refine gc_seq fun K24 hK24 => gc_anyS (hS.blank 1) (by kernel_rfl) rfl fun nq29 hK => ?_
   have hS := hS.dr nq29
   refine ga_take 0 rfl rfl rfl rfl (by kernel_rfl) (fun _ _ _ _ h => h) hK (fun w1 hS => op_buildG rfl plan37 rfl rfl) ?_
   refine Yp 1 rfl (by kernel_rfl) (fun _ _ _ _ h => h) hK ?_
   refine Yp 2 rfl (by kernel_rfl) (fun _ _ _ _ h => h) hK ?_
   refine Yf 3 2 Tryz.underlying72 rfl el3 (by kernel_rfl) (fun _ _ _ _ h => h) hK ?_
   refine Yb 4 0 rfl (by kernel_rfl) (fun _ _ _ _ h => h) hK ?_
   refine Yp 5 rfl (by kernel_rfl) (fun _ _ _ _ h => h) hK ?_
   refine Yp 6 rfl (by kernel_rfl) (fun _ _ _ _ h => h) hK ?_
   refine Yf 7 3 Tryz.underlying72 rfl el3 (by kernel_rfl) (fun _ _ _ _ h => h) hK ?_
   refine Yb 8 0 rfl (by kernel_rfl) (fun _ _ _ _ h => h) hK ?_
   refine ga_one 9 (by kernel_rfl) rfl ?_
   refine gl_storeM 2 hS el37 rfl rfl rfl rfl rfl rfl rfl rfl rfl fun w_280 hS => ?_
   refine gl_nil (ga_next ((hS.blank 1).pre 7) fun hK => ?_)
   refine Yp 10 rfl (by kernel_rfl) (fun _ _ _ _ h => h) hK ?_
   refine Yp 11 rfl (by kernel_rfl) (fun _ _ _ _ h => h) hK ?_
   refine ga_done (by kernel_rfl) ?_
   refine hK24 _ _ (gc_ret ?_)
   simp only [XR]
   refine gk_res3 rfl (⟨_, rfl, run_loadVarB 2 Tryz.underlying37 rfl el37 hS rfl rfl rfl⟩) (rfl) (rfl) ?_
   exact .inl ⟨sg.e, sg.i, hL9.2 (by omega), rfl, hS.below⟩
  simp only [NN, reduceCtorEq] at c123
  refine gc_skip (hK22 _ _ (gc_seq fun K25 hK25 => gc_region (Zg 3 Tryz.underlying37 el37 hS rfl (gl_storeM 2 hS el37 rfl rfl rfl rfl rfl rfl rfl rfl rfl fun w_282 hS => ?_))))
  refine Zp rfl (Zp rfl (gl_nil (hK25 _ _ (gc_ret (gk_res3 rfl (⟨_, rfl, run_loadVarB 2 Tryz.underlying37 rfl el37 hS rfl rfl rfl⟩) (rfl) (rfl) ?_)))))
  have he0 : sg.e = 0 := by omega
  have hlv := hlive (hs9 (hse9 he0)).1
  have hS : St w.heap.size w _ [.blk gc 72 (rsC A l.length c (sg)), .row As cs 27 3 Ss.length (Ss.map shC).flatten, .blk g2 37 (ntC s0 (AL, Ls.length, cL) (AN, N.length, cN)), .blk g6 37 (ntC (s0) (AL, Ls.length, cL) (AN, N.length, cN)), .row AL cL 81 14 Ls.length (Ls.map rlC).flatten, .keep K wk, .row AN cN 9 1 N.length (N.map tV)] := hS
  exact .inr ⟨⟨s0, xs, N⟩, AL, cL, AN, cN, Ls, _, hL9.1 he0, rfl, hS.keepAll, ⟨⟨hS.rowRd (i := 4) rfl (keep_mem (.tail _ (.tail _ (.tail _ (.tail _ (.head _)))))), fun _ => rfl⟩, hlv.2.2.2.1.lift fun h => (hS.keepRd (i := 5) rfl h).weaken (keep_mem (x := .keep K wk) (.tail _ (.tail _ (.tail _ (.tail _ (.tail _ (.head _))))))),
   hS.rowRd (i := 6) rfl (keep_mem (.tail _ (.tail _ (.tail _ (.tail _ (.tail _ (.tail _ (.head _)))))))) ⟩⟩
 simp only [NN, reduceCtorEq] at c67
 refine Zs rfl (Zs rfl (Zs rfl (Zs rfl (Zs rfl (Zp rfl (gl_nil (hK17 _ _ (gc_cond_f rfl (gc_exit ?_)))))))))
 refine hK14 _ _ (gc_seq fun K26 hK26 => gc_region (Zp rfl (Zp rfl ?_)))
 have hL : LvG (decNetV l) s (dnN l s0 xs width s.a) := by
  refine ⟨fun he => ?_, hdead⟩
  obtain ⟨hxm, hSm, hsok, hP, hws, hwx, hn64, hwid, hsl, hlen, hD⟩ := hlive he
  have e : n - m = 0 := by omega
  rw [e] at hD
  rw [hD, hwid, ← hxm]
  rfl
 refine gl_callf rfl rfl rfl rfl Tryz.func34 rfl rfl rfl (rdNames_calls gc A c l s width s0 xs _ _ hS hr (fun he => (hlive he).2.2.2.2.2.2.2.2.2.1) hb1 hc hsa (fun he => (hlive he).2.2.2.2.2.2.2.2.1) (fun he => by rw [(hlive he).2.2.2.2.2.2.2.1]; exact (sizeV_le _).2) hL) ?_
 rintro _ w115 ⟨s9, N, AN, cN, rfl, hsa9, hs9, hL9, hN9, hS⟩
 refine ⟨_, rfl, ?_⟩
 have hS := hS.permute (.cons _ (List.perm_append_comm (l₁ := [_]) (l₂ := [_, _, _, _, _])))
 refine Zf 4 Tryz.underlying37 rfl el29 (gl_store 3 hS el29.cellsOf.1 el29.cellsOf.2 rfl rfl rfl rfl rfl rfl rfl rfl fun w_277 hS => ?_)
 refine gl_nil (hK26 _ _ (gc_seq fun K27 hK27 => gc_region (Zp rfl (gl_callf rfl rfl rfl rfl Tryz.func35 rfl rfl rfl (rdFoot_calls gc _ A c l s9 _ _ hS hr hc (fun h => (hlive (hs9 h).1).2.2.2.2.2.2.2.2.2.1) (fun h => ⟨hsa9, (hs9 h).2⟩)) ?_))))
 rintro _ w118 ⟨rfl, hS⟩
 refine ⟨_, rfl, ?_⟩
 have hL9 := lvgT (l := l) hL9
 have hse9 := rsT_live l s9
 generalize rsT l s9 = sg at hS hL9 hse9 ⊢
 refine gl_nil (hK27 _ _ (gc_seq fun K28 hK28 => gc_seq fun K29 hK29 => gc_region (Zp rfl (Zp rfl (Zf 2 Tryz.underlying72 rfl el3 (Zb 0 hS rfl (Zp rfl (gl_nil (hK29 _ _ (gc_cond rfl rfl (fun c123 => ?_) (fun c123 => ?_)))))))))))
 ·simp only [NN, reduceCtorEq] at c123
  refine gc_seq fun K30 hK30 => gc_anyS (hS.blank 1) (by kernel_rfl) rfl fun nq29 hK => ?_
  have hS := hS.dr nq29
  refine ga_take 0 rfl rfl rfl rfl (by kernel_rfl) (fun _ _ _ _ h => h) hK (fun w1 hS => op_buildG rfl plan37 rfl rfl) ?_
  refine Yp 1 rfl (by kernel_rfl) (fun _ _ _ _ h => h) hK ?_
  refine Yp 2 rfl (by kernel_rfl) (fun _ _ _ _ h => h) hK ?_
  refine Yf 3 2 Tryz.underlying72 rfl el3 (by kernel_rfl) (fun _ _ _ _ h => h) hK ?_
  refine Yb 4 0 rfl (by kernel_rfl) (fun _ _ _ _ h => h) hK ?_
  refine Yp 5 rfl (by kernel_rfl) (fun _ _ _ _ h => h) hK ?_
  refine Yp 6 rfl (by kernel_rfl) (fun _ _ _ _ h => h) hK ?_
  refine Yf 7 3 Tryz.underlying72 rfl el3 (by kernel_rfl) (fun _ _ _ _ h => h) hK ?_
  refine Yb 8 0 rfl (by kernel_rfl) (fun _ _ _ _ h => h) hK ?_
  refine ga_one 9 (by kernel_rfl) rfl ?_
  refine gl_storeM 2 hS el37 rfl rfl rfl rfl rfl rfl rfl rfl rfl fun w_280 hS => ?_
  refine gl_nil (ga_next ((hS.blank 1).pre 7) fun hK => ?_)
  refine Yp 10 rfl (by kernel_rfl) (fun _ _ _ _ h => h) hK ?_
  refine Yp 11 rfl (by kernel_rfl) (fun _ _ _ _ h => h) hK ?_
  refine ga_done (by kernel_rfl) ?_
  refine hK30 _ _ (gc_ret ?_)
  simp only [XR]
  refine gk_res3 rfl (⟨_, rfl, run_loadVarB 2 Tryz.underlying37 rfl el37 hS rfl rfl rfl⟩) (rfl) (rfl) ?_
  exact .inl ⟨sg.e, sg.i, hL9.2 (by omega), rfl, hS.below⟩
 simp only [NN, reduceCtorEq] at c123
 refine gc_skip (hK28 _ _ (gc_seq fun K31 hK31 => gc_region (Zg 3 Tryz.underlying37 el37 hS rfl (gl_storeM 2 hS el37 rfl rfl rfl rfl rfl rfl rfl rfl rfl fun w_282 hS => ?_))))
 refine Zp rfl (Zp rfl (gl_nil (hK31 _ _ (gc_ret (gk_res3 rfl (⟨_, rfl, run_loadVarB 2 Tryz.underlying37 rfl el37 hS rfl rfl rfl⟩) (rfl) (rfl) ?_)))))
 have he0 : sg.e = 0 := by omega
 have hlv := hlive (hs9 (hse9 he0)).1
 have hS : St w.heap.size w _ [.blk gc 72 (rsC A l.length c (sg)), .row As cs 27 3 Ss.length (Ss.map shC).flatten, .blk g2 37 (ntC s0 (AL, Ls.length, cL) (AN, N.length, cN)), .blk g6 37 (ntC (s0) (AL, Ls.length, cL) (AN, N.length, cN)), .row AL cL 81 14 Ls.length (Ls.map rlC).flatten, .keep K wk, .row AN cN 9 1 N.length (N.map tV)] := hS
 exact .inr ⟨⟨s0, xs, N⟩, AL, cL, AN, cN, Ls, _, hL9.1 he0, rfl, hS.keepAll, ⟨⟨hS.rowRd (i := 4) rfl (keep_mem (.tail _ (.tail _ (.tail _ (.tail _ (.head _)))))), fun _ => rfl⟩, hlv.2.2.2.1.lift fun h => (hS.keepRd (i := 5) rfl h).weaken (keep_mem (x := .keep K wk) (.tail _ (.tail _ (.tail _ (.tail _ (.tail _ (.head _))))))),
  hS.rowRd (i := 6) rfl (keep_mem (.tail _ (.tail _ (.tail _ (.tail _ (.tail _ (.tail _ (.head _)))))))) ⟩⟩
end Go.Proofs.YtnomlloaahoceaaGreatDoor
