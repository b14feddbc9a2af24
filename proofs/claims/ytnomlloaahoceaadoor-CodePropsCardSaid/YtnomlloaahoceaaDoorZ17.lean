/- Contracts of functions that CodeProps reaches, and words to say them. No condition. -/
import Derived.Test.YtnomlloaahoceaaDoorZ16
/- Contracts of package code: a question read from bytes. No condition. -/
namespace Go.Proofs.YtnomlloaahoceaaDoor
open Go.RowKit
set_option linter.unusedVariables false
set_option linter.unusedSimpArgs false
def Fcs (w : World) (ok : Nat → Prop) (S : List Sv) (ls : List (List Nat)) : Prop := S.length = ls.length ∧ ∀ (i : Nat) x l, S[i]? = some x → ls[i]? = some l → RdE w ok fV x.1 l ∧ x.2.1 = l.length ∧ l.length ≤ 17592186044416 ∧ ∀ u ∈ l, u < 18446744073709551616
theorem Fcs.lift {w w' : World} {ok ok' : Nat → Prop} {S : List Sv} {ls : List (List Nat)} (h : Fcs w ok S ls) (hl : ∀ {A : Option Addr} {n : Nat} {cs : List Value}, Rd w ok A n 1 cs → Rd w' ok' A n 1 cs) : Fcs w' ok' S ls := ⟨h.1, fun i x l h1 h2 => ⟨hl (h.2 i x l h1 h2).1, (h.2 i x l h1 h2).2⟩⟩
theorem Fcs.snoc {w : World} {ok : Nat → Prop} {S : List Sv} {ls : List (List Nat)} {x : Sv} {l : List Nat} (h : Fcs w ok S ls) (h1 : RdE w ok fV x.1 l) (h2 : x.2.1 = l.length) (h3 : l.length ≤ 17592186044416) (h4 : ∀ u ∈ l, u < 18446744073709551616) : Fcs w ok (S ++ [x]) (ls ++ [l]) := by
  refine ⟨by simp [h.1], fun i y m hy hm => ?_⟩
  rcases snoc_get hy with ⟨hy, hi⟩ | ⟨hi, rfl⟩
  · rcases snoc_get hm with ⟨hm, _⟩ | ⟨hi2, rfl⟩
    · exact h.2 i y m hy hm
    · have := h.1; omega
  · rcases snoc_get hm with ⟨hm, hi2⟩ | ⟨hi2, rfl⟩
    · have := h.1; omega
    · exact ⟨h1, h2, h3, h4⟩
theorem St.toEnd {B : Nat} {w0 w : World} {x y : It} {L : List It} (h : St B w0 w (x :: y :: L)) : St B w0 w (x :: (L ++ [y])) :=
  h.permute (.cons _ (List.perm_append_comm (l₁ := [y]) (l₂ := L)))
theorem hdV_len {mm l : List UInt8} (h : hdV mm l = none) : l.length ≤ 1048576 ∧ 5 ≤ l.length := by
  unfold hdV at h
  split at h
  · cases h
  split at h
  · cases h
  split at h
  · cases h
  · omega
theorem Fcs.lsM {B : Nat} {w0 w wk : World} {L : List It} {K ok : Nat → Prop} {A : Option Addr} {c n : Nat} {S : List Sv} {ls : List (List Nat)} {i j : Nat} (hS : St B w0 w L) (hi : L[i]? = some (.row A c 22 1 n (S.map svV))) (hj : L[j]? = some (.keep K wk)) (hn : S.length = n)
    (h : Fcs wk K S ls) (h1 : ∀ b, It.fp (.row A c 22 1 n (S.map svV)) b → ok b) (h2 : ∀ b, It.fp (.keep K wk) b → ok b) : LsM w ok A S ls :=
  ⟨rdE_of (hS.rowRd hi h1) hn, h.1, (h.lift fun hq => (hS.keepRd hj hq).weaken h2).2⟩
def dpR (l : List UInt8) (w : World) (e : Ending) (w' : World) : Prop := (∃ x y, decPropV l = .error (x, y) ∧ e = .returned (.tuple #[.agg ⟨zP⟩, .int .i64 x, .int .i64 y]) ∧ Below w.heap.size w w') ∨
      (∃ p C G M SG SM K, decPropV l = .ok p ∧ e = .returned (.tuple #[.agg ⟨propC C G M p⟩, .int .i64 0, .int .i64 0]) ∧ St w.heap.size w w' [.keep K w'] ∧ PrM w' K C G M SG SM p)
set_option maxHeartbeats 4000000 in
set_option maxRecDepth 100000 in
theorem decodeProp_calls (A : Option Addr) (n0 c : Nat) (l : List UInt8) (w : World) {ok : Nat → Prop} (h1 : RdE w ok uB A l) (hn : n0 = l.length) (hc : n0 ≤ c) (hb : l.length ≤ 4611686018427387904) :
    Calls Tryd.prog 28 ⟨[.slice A n0 c]⟩ w (dpR l w) := by
  subst hn
  have hr : Rdb w.heap.size w ok A l := fun hS => h1.old hS
  have hpan : ∀ d, (∀ g2 g3 g4, look (dpE g2 g3 g4) d = none) → PanOk (DpQ (dpR l w) w.heap.size w fun xy => decPropV l = .error xy) d := fun d hd => dpPan hd
  refine gc_enterD (N := 144) Tryd.func28 rfl rfl rfl [(0, _)] rfl ?_
  have hS := St.start w
  refine gc_conseq (dpQ_to (B := w.heap.size) (w0 := w) (er := fun xy => decPropV l = .error xy) ?_) ?_
  · exact fun x y w' L h hS => .inl ⟨x, y, h, rfl, hS.below⟩
  refine gc_seq fun K1 hK1 => ?_
  refine gc_region ?_
  refine gl_alloc el25 hS rfl rfl rfl rfl fun g2 w2 hS => ?_
  refine gl_alloc el34 hS rfl rfl rfl rfl fun g3 w3 hS => ?_
  refine gl_alloc el3 hS rfl rfl rfl rfl fun g4 w4 hS => ?_
  refine gl_nil ?_
  refine hK1 _ _ ?_
  clear hK1; try clear K1
  refine gc_cut (fun a w' => ∃ g2 g3 g4, Fr ⟨144, dpD g3 g4⟩ a [(0, .slice A l.length c), (2, .pointer (some ⟨g2, 0, none⟩)), (3, .pointer (some ⟨g3, 0, none⟩)), (4, .pointer (some ⟨g4, 0, none⟩))] ∧ St w.heap.size w w' [.blk g2 25 zP, .blk g3 34 [.int .i64 0], .blk g4 3 [.int .i64 0]]) ?_ ?_
  · skip
    refine gc_region ?_
    refine gl_op rfl rfl rfl (op_mkFunc0 rfl rfl) ?_
    refine gl_defer rfl rfl rfl rfl ?_
    refine gl_nil ?_
    intro a ha
    exact ⟨g2, g3, g4, ha.sub ⟨rfl, rfl, rfl, rfl, trivial⟩, hS⟩
  rintro a w1 ⟨g2, g3, g4, hF, hS⟩
  refine gc_of hF ?_
  clear hF
  refine gc_cut (fun a w' => ∃ g2 g3 g4 gc, Fr ⟨144, dpD g3 g4⟩ a [(2, .pointer (some ⟨g2, 0, none⟩)), (3, .pointer (some ⟨g3, 0, none⟩)), (4, .pointer (some ⟨g4, 0, none⟩)), (5, .pointer (some ⟨gc, 0, none⟩))] ∧ St w.heap.size w w' [.blk gc 54 (cuC A l.length c 0 []), .blk g2 25 zP, .blk g3 34 [.int .i64 0], .blk g4 3 [.int .i64 0]]) ?_ ?_
  · skip
    refine gc_region ?_
    refine gl_op rfl rfl rfl (op_pure hT rfl) ?_
    refine gl_op rfl rfl rfl (op_buildG rfl plan54 rfl rfl) ?_
    refine gl_box hS rfl rfl rfl rfl rfl fun g18 w18 hS => ?_
    refine gl_op rfl rfl rfl (op_pure hT rfl) ?_
    refine gl_nil ?_
    intro a ha
    refine ⟨g2, g3, g4, g18, ha.sub ⟨rfl, rfl, rfl, rfl, trivial⟩, ?_⟩
    exact hS.permute (List.perm_append_comm (l₁ := [_, _, _]) (l₂ := [_]))
  rintro a w1 ⟨g2, g3, g4, gc, hF, hS⟩
  refine gc_of hF ?_
  clear hF
  refine gc_seq fun K2 hK2 => ?_
  refine gc_region ?_
  refine gl_op rfl rfl rfl (op_pure hT rfl) ?_
  refine gl_callP rfl rfl rfl rfl Tryd.func50 rfl rfl rfl (cHead_calls gc _ A l.length c l [65, 77, 66, 80] 0 [] _ _ hS hr rfl hc hb) ?_
  rintro _ w20 (⟨x, y, hx, rfl, hS⟩ | ⟨hx, rfl, hS⟩)
  · refine .inr ⟨_, rfl, ?_⟩
    try simp only [x_then_panic, x_block_panic]
    exact gk_dp ⟨rfl, rfl, rfl, trivial⟩ (decPropV_h hx) hS
  refine .inl ⟨_, rfl, ?_⟩
  obtain ⟨hlen, hlen5⟩ := hdV_len hx
  have hD := decPropV_0 hx
  clear hx
  refine gl_nil ?_
  refine hK2 _ _ ?_
  clear hK2; try clear K2
  refine gc_seq fun K3 hK3 => ?_
  refine gc_region ?_
  refine gl_alloc el25 hS rfl rfl rfl rfl fun g6 w6 hS => ?_
  refine gl_nil ?_
  refine hK3 _ _ ?_
  clear hK3; try clear K3
  refine gc_seq fun K4 hK4 => ?_
  refine gc_region ?_
  refine gl_op rfl rfl rfl (op_pure hT rfl) ?_
  refine gl_op rfl rfl rfl (op_pure hT rfl) ?_
  refine gl_op rfl rfl rfl (op_fieldB 1 rfl Tryd.underlying54 rfl el3 rfl rfl) ?_
  refine gl_op rfl rfl rfl (op_loadB 0 hT hS rfl rfl rfl rfl rfl rfl) ?_
  refine gl_op rfl rfl rfl (op_pure hT rfl) ?_
  refine gl_nil ?_
  refine hK4 _ _ ?_
  clear hK4; try clear K4
  refine gc_seq fun K5 hK5 => ?_
  refine gc_region ?_
  refine gl_op rfl rfl rfl (op_pure hT rfl) ?_
  refine gl_callP rfl rfl rfl rfl Tryd.func51 rfl rfl rfl (cUint_calls gc _ A l.length c l 5 [] _ _ hS hr rfl hlen) ?_
  rintro _ w26 (⟨x, y, hx, rfl, hS⟩ | ⟨n9, a1, hx, rfl, hS⟩)
  · refine .inr ⟨_, rfl, ?_⟩
    try simp only [x_then_panic, x_block_panic]
    exact gk_dp ⟨rfl, rfl, rfl, trivial⟩ (hD.trans (dpN_e hx)) hS
  refine .inl ⟨_, rfl, ?_⟩
  have hu1 := rU_ok hx
  obtain ⟨n, rfl⟩ : ∃ n : Nat, n9 = n := ⟨n9.toNat, by omega⟩
  have hxN := hx
  clear hx
  refine gl_op rfl rfl rfl (op_pure hT rfl) ?_
  refine gl_nil ?_
  refine hK5 _ _ ?_
  clear hK5; try clear K5
  refine gc_seq fun K6 hK6 => ?_
  refine gc_seq fun K7 hK7 => ?_
  refine gc_region ?_
  refine gl_op rfl rfl rfl (op_pure hT rfl) ?_
  refine gl_op rfl rfl rfl (op_pure hT rfl) ?_
  refine gl_op rfl rfl rfl (op_pure hT rfl) ?_
  refine gl_split (t := 29) rfl (fun c29 => ?_) (fun c29 => ?_)
  · try simp only [decide_eq_true_eq, decide_eq_false_iff_not, Bool.not_eq_true', Bool.not_eq_false', Int.not_lt, Int.not_le, Nat.not_lt, Nat.not_le, Bool.true_eq, Bool.false_eq, reduceCtorEq] at c29
    refine gl_pass rfl rfl rfl rfl rfl rfl ?_
    refine gl_pass rfl rfl rfl rfl rfl rfl ?_
    refine gl_op rfl rfl rfl (op_pure hT rfl) ?_
    refine gl_nil ?_
    refine hK7 _ _ ?_
    clear hK7; try clear K7
    refine gc_cond_t rfl ?_
    refine gc_region ?_
    refine gl_op rfl rfl rfl (op_pure hT rfl) ?_
    refine gl_op rfl rfl rfl (op_pure hT rfl) ?_
    refine gl_callP rfl rfl rfl rfl Tryd.func54 rfl rfl rfl (fail_calls _ 65 5 _) ?_
    rintro _ w35 ⟨rfl, hb35⟩
    refine .inr ⟨_, rfl, ?_⟩
    try simp only [x_then_panic, x_block_panic]
    exact gk_dp ⟨rfl, rfl, rfl, trivial⟩ (hD.trans (dpN_b hxN (by omega))) (hS.eqv hb35)
  · try simp only [decide_eq_true_eq, decide_eq_false_iff_not, Bool.not_eq_true', Bool.not_eq_false', Int.not_lt, Int.not_le, Nat.not_lt, Nat.not_le, Bool.true_eq, Bool.false_eq, reduceCtorEq] at c29
    refine gl_un rfl rfl rfl rfl ?_
    refine gl_op rfl rfl rfl (op_pure hT rfl) ?_
    refine gl_un rfl rfl rfl rfl ?_
    refine gl_op rfl rfl rfl (op_pure hT rfl) ?_
    refine gl_op rfl rfl rfl (op_pure hT rfl) ?_
    refine gl_nil ?_
    refine hK7 _ _ ?_
    clear hK7; try clear K7
    refine gc_cond rfl rfl (fun c32 => ?_) (fun c32 => ?_)
    · try simp only [decide_eq_true_eq, decide_eq_false_iff_not, Bool.not_eq_true', Bool.not_eq_false', Int.not_lt, Int.not_le, Nat.not_lt, Nat.not_le, Bool.true_eq, Bool.false_eq, reduceCtorEq] at c32
      refine gc_region ?_
      refine gl_op rfl rfl rfl (op_pure hT rfl) ?_
      refine gl_op rfl rfl rfl (op_pure hT rfl) ?_
      refine gl_callP rfl rfl rfl rfl Tryd.func54 rfl rfl rfl (fail_calls _ 65 5 _) ?_
      rintro _ w35 ⟨rfl, hb35⟩
      refine .inr ⟨_, rfl, ?_⟩
      try simp only [x_then_panic, x_block_panic]
      exact gk_dp ⟨rfl, rfl, rfl, trivial⟩ (hD.trans (dpN_b hxN (by omega))) (hS.eqv hb35)
    · try simp only [decide_eq_true_eq, decide_eq_false_iff_not, Bool.not_eq_true', Bool.not_eq_false', Int.not_lt, Int.not_le, Nat.not_lt, Nat.not_le, Bool.true_eq, Bool.false_eq, reduceCtorEq] at c32
      refine gc_skip ?_
      refine hK6 _ _ ?_
      clear hK6; try clear K6
      refine gc_seq fun K8 hK8 => ?_
      refine gc_region ?_
      refine gl_op rfl rfl rfl (op_pure hT rfl) ?_
      refine gl_op rfl rfl rfl (op_pure hT rfl) ?_
      refine gl_callP rfl rfl rfl rfl Tryd.func59 rfl rfl rfl (cFloats_calls gc _ A l.length c l a1 [] _ _ n hS hr rfl hlen (by omega) (by omega)) ?_
      rintro _ w38 (⟨x, y, a9, hx, rfl, hS⟩ | ⟨C, a2, AC, cC, hx, rfl, hS⟩)
      · refine .inr ⟨_, rfl, ?_⟩
        try simp only [x_then_panic, x_block_panic]
        exact gk_dp ⟨rfl, rfl, rfl, trivial⟩ (hD.trans (dpN_f hxN (by omega) hx)) hS
      refine .inl ⟨_, rfl, ?_⟩
      obtain ⟨hCl, hf1, hCf⟩ := rFs_ok hx
      have ha2 := hf1 (by omega)
      have hD := hD.trans (dpN_0 hxN (by omega) hx)
      have hS := hS.toEnd
      clear hx hxN
      refine gl_op rfl rfl rfl (op_fieldB 0 rfl Tryd.underlying25 rfl el22 rfl rfl) ?_
      refine gl_store 4 hS el22.cellsOf.1 el22.cellsOf.2 rfl rfl rfl rfl rfl rfl rfl rfl fun wcode_go_311 hS => ?_
      refine gl_nil ?_
      refine hK8 _ _ ?_
      clear hK8; try clear K8
      refine gc_seq fun K9 hK9 => ?_
      refine gc_region ?_
      refine gl_op rfl rfl rfl (op_pure hT rfl) ?_
      refine gl_op rfl rfl rfl (op_pure hT rfl) ?_
      refine gl_op rfl rfl rfl (op_fieldB 1 rfl Tryd.underlying54 rfl el3 rfl rfl) ?_
      refine gl_op rfl rfl rfl (op_loadB 0 hT hS rfl rfl rfl rfl rfl rfl) ?_
      refine gl_op rfl rfl rfl (op_pure hT rfl) ?_
      refine gl_nil ?_
      refine hK9 _ _ ?_
      clear hK9; try clear K9
      refine gc_seq fun K10 hK10 => ?_
      refine gc_region ?_
      refine gl_op rfl rfl rfl (op_pure hT rfl) ?_
      refine gl_callP rfl rfl rfl rfl Tryd.func51 rfl rfl rfl (cUint_calls gc _ A l.length c l a2 [] _ _ hS hr rfl hlen) ?_
      rintro _ w45 (⟨x, y, hx, rfl, hS⟩ | ⟨k9, a3, hx, rfl, hS⟩)
      · refine .inr ⟨_, rfl, ?_⟩
        try simp only [x_then_panic, x_block_panic]
        exact gk_dp ⟨rfl, rfl, rfl, trivial⟩ (hD.trans (dpGx_e hx)) hS
      refine .inl ⟨_, rfl, ?_⟩
      have hu2 := rU_ok hx
      obtain ⟨kG, rfl⟩ : ∃ n : Nat, k9 = n := ⟨k9.toNat, by omega⟩
      have hxN := hx
      clear hx
      refine gl_op rfl rfl rfl (op_pure hT rfl) ?_
      refine gl_nil ?_
      refine hK10 _ _ ?_
      clear hK10; try clear K10
      refine gc_seq fun K11 hK11 => ?_
      refine gc_seq fun K12 hK12 => ?_
      refine gc_region ?_
      refine gl_op rfl rfl rfl (op_pure hT rfl) ?_
      refine gl_op rfl rfl rfl (op_pure hT rfl) ?_
      refine gl_nil ?_
      refine hK12 _ _ ?_
      clear hK12; try clear K12
      refine gc_cond rfl rfl (fun c47 => ?_) (fun c47 => ?_)
      · try simp only [decide_eq_true_eq, decide_eq_false_iff_not, Bool.not_eq_true', Bool.not_eq_false', Int.not_lt, Int.not_le, Nat.not_lt, Nat.not_le, Bool.true_eq, Bool.false_eq, reduceCtorEq] at c47
        refine gc_region ?_
        refine gl_op rfl rfl rfl (op_pure hT rfl) ?_
        refine gl_op rfl rfl rfl (op_pure hT rfl) ?_
        refine gl_callP rfl rfl rfl rfl Tryd.func54 rfl rfl rfl (fail_calls _ 65 a2 _) ?_
        rintro _ w50 ⟨rfl, hb50⟩
        refine .inr ⟨_, rfl, ?_⟩
        try simp only [x_then_panic, x_block_panic]
        exact gk_dp ⟨rfl, rfl, rfl, trivial⟩ (hD.trans (dpGx_b hxN (by omega))) (hS.eqv hb50)
      · try simp only [decide_eq_true_eq, decide_eq_false_iff_not, Bool.not_eq_true', Bool.not_eq_false', Int.not_lt, Int.not_le, Nat.not_lt, Nat.not_le, Bool.true_eq, Bool.false_eq, reduceCtorEq] at c47
        have hD := hD.trans (dpGx_0 hxN (by omega))
        clear hxN
        refine gc_skip ?_
        refine hK11 _ _ ?_
        clear hK11; try clear K11
        refine gc_seq fun K13 hK13 => ?_
        refine gc_seq fun K14 hK14 => ?_
        refine gc_region ?_
        refine gl_op rfl rfl rfl (op_pure hT rfl) ?_
        refine gl_op rfl rfl rfl (op_pure hT rfl) ?_
        refine gl_nil ?_
        refine hK14 _ _ ?_
        clear hK14; try clear K14
        refine gc_block ?_
        have hS := (hS.nil 22 1).keep0
        refine gc_loop (fun kk a' w' => ∃ (i : Nat) (S : List Sv) (G : List (List Nat)) (a : Int) (AG : Option Addr) (cG : Nat) (K : Nat → Prop) (wk : World), Fr ⟨144, dpD g3 g4⟩ a' [(2, .pointer (some ⟨g2, 0, none⟩)), (3, .pointer (some ⟨g3, 0, none⟩)), (4, .pointer (some ⟨g4, 0, none⟩)), (5, .pointer (some ⟨gc, 0, none⟩)), (6, .pointer (some ⟨g6, 0, none⟩)), (8, .int .i64 (n : Nat)), (51, .int .i64 (kG : Nat)), (52, .int .i64 (i : Nat))] ∧ i ≤ kG ∧ kk = kG + 1 - i ∧ (0 ≤ a ∧ a ≤ l.length) ∧
          G.length = i ∧ decPropV l = dpRows l ⟨C, [], 0, [], 0, 0, 0⟩ (kG - i) G a ∧ Fcs wk K S G ∧ St w.heap.size w w' [.blk gc 54 (cuC A l.length c a []), .blk g2 25 zP, .blk g3 34 [.int .i64 0], .blk g4 3 [.int .i64 0], .blk g6 25 [.slice AC n cC, .slice AG i cG, .int .i64 (0), .slice none 0 0, .int .i64 0, .int .i64 0, .int .i64 0], .row AC cC 62 1 n (C.map fV), .row AG cG 22 1 i (S.map svV), .keep K wk]) (kG + 1) ?_ ?_ ?_
        · intro a' ha; exact ⟨0, [], [], a3, none, 0, _, _, ha.sub ⟨rfl, rfl, rfl, rfl, rfl, rfl, rfl, rfl, trivial⟩, by omega, by omega, by omega, rfl, hD, ⟨rfl, fun i x l h => by simp at h⟩, hS⟩
        · rintro a' w' ⟨i, _, _, _, _, _, _, _, _, h1, h2, _⟩; omega
        clear hS hD
        rintro kk a' w1 ⟨i, S, G, a, AG, cG, K, wk, hF, hi, hk, hab, hGl, hD, hP, hS⟩
        refine gc_of hF ?_
        clear hF
        have hSl := hP.1
        refine gc_seq fun K15 hK15 => ?_
        refine gc_region ?_
        refine gl_op rfl rfl rfl (op_pure hT rfl) ?_
        refine gl_nil ?_
        refine hK15 _ _ ?_
        clear hK15; try clear K15
        refine gc_seq fun K16 hK16 => ?_
        refine gc_cond rfl rfl (fun c53 => ?_) (fun c53 => ?_)
        · try simp only [decide_eq_true_eq, decide_eq_false_iff_not, Bool.not_eq_true', Bool.not_eq_false', Int.not_lt, Int.not_le, Nat.not_lt, Nat.not_le, Bool.true_eq, Bool.false_eq, reduceCtorEq] at c53
          refine gc_skip ?_
          refine hK16 _ _ ?_
          clear hK16; try clear K16
          refine gc_seq fun K17 hK17 => ?_
          refine gc_block ?_
          refine gc_anyS (((hS.blank 0).blank 4).blank 6) (by kernel_rfl) rfl fun nq16 hK => ?_
          have hS := hS.dr nq16
          refine ga_take 0 rfl rfl rfl rfl (by kernel_rfl) (hpan 54 fun _ _ _ => rfl) hK (fun w1 hS => op_fieldB 1 rfl Tryd.underlying25 rfl el23 rfl rfl) ?_
          refine ga_take 2 rfl rfl rfl rfl (by kernel_rfl) (hpan 56 fun _ _ _ => rfl) hK (fun w1 hS => op_pure hT rfl) ?_
          refine ga_take 3 rfl rfl rfl rfl (by kernel_rfl) (hpan 57 fun _ _ _ => rfl) hK (fun w1 hS => op_pure hT rfl) ?_
          refine ga_two 1 4 (by kernel_rfl) rfl rfl ?_ ?_
          · skip
            refine gl_op rfl rfl rfl (op_loadB 4 hT hS rfl rfl rfl rfl rfl rfl) ?_
            refine gl_nil ?_
            refine ga_next ((((hS.blank 0).blank 4).blank 6).pre 8) fun hK => ?_
            refine ga_one 4 (by kernel_rfl) rfl ?_
            refine gl_callP rfl rfl rfl rfl Tryd.func59 rfl rfl rfl (cFloats_calls gc _ A l.length c l a [] _ _ n hS hr rfl hlen (by omega) (by omega)) ?_
            rintro _ w58 (⟨x, y, a9, hx, rfl, hS⟩ | ⟨us, a5, A58, c58, hx, rfl, hS⟩)
            · refine .inr ⟨_, rfl, ?_⟩
              try simp only [x_then_panic, x_block_panic]
              exact gk_dp ⟨rfl, rfl, rfl, trivial⟩ (hD.trans (dpRows_e (k := kG - (i + 1)) (by omega) (show rFs l C.length a = _ by rw [hCl, hx]))) hS
            refine .inl ⟨_, rfl, ?_⟩
            obtain ⟨hul, hf2, huf⟩ := rFs_ok hx
            have ha5 := hf2 (by omega)
            have hD5 := hD.trans (dpRows_s (k := kG - (i + 1)) (by omega) (show rFs l C.length a = _ by rw [hCl, hx]))
            have hS := hS.toEnd
            clear hx
            refine gl_nil ?_
            refine ga_next ((((hS.blank 0).blank 4).blank 6).pre 8) fun hK => ?_
            refine ga_one 5 (by kernel_rfl) rfl ?_
            refine gl_lit hT hS el22 rfl rfl rfl rfl rfl rfl rfl rfl rfl fun g59 w59 hS => ?_
            refine gl_nil ?_
            refine ga_next ((((hS.blank 0).blank 4).blank 6).pre 8) fun hK => ?_
            refine ga_one 6 (by kernel_rfl) rfl ?_
            refine gl_append 6 hT hS el22 (hS.rd (i := 9) rfl) (rfl) rfl rfl rfl rfl rfl rfl rfl rfl (by first | omega | (simp; omega)) (by first | omega | (simp; omega)) fun A60 c60 w60 hS => ?_
            have hS := hS.erase 9
            refine gl_nil ?_
            refine ga_next ((((hS.blank 0).blank 4).blank 6).pre 8) fun hK => ?_
            refine ga_take 7 rfl rfl rfl rfl (by kernel_rfl) (hpan 61 fun _ _ _ => rfl) hK (fun w1 hS => op_fieldB 1 rfl Tryd.underlying25 rfl el23 rfl rfl) ?_
            refine ga_one 8 (by kernel_rfl) rfl ?_
            refine gl_store 4 hS el23.cellsOf.1 el23.cellsOf.2 rfl rfl rfl rfl rfl rfl rfl rfl fun wcode_go_318 hS => ?_
            refine gl_nil ?_
            refine ga_next ((((hS.blank 0).blank 4).blank 6).pre 8) fun hK => ?_
            refine ga_done (by kernel_rfl) ?_
            refine hK17 _ _ ?_
            clear hK17; try clear K17
            refine gc_region ?_
            first | refine gl_fit hT rfl rfl rfl rfl (by omega) ?_ | refine gl_op rfl rfl rfl (op_pure hT rfl) ?_
            refine gl_op rfl rfl rfl (op_pure hT rfl) ?_
            refine gl_nil ?_
            intro a' ha
            have hS : St w.heap.size w _ ([.blk gc 54 (cuC A l.length c a5 []), .blk g2 25 zP, .blk g3 34 [.int .i64 0], .blk g4 3 [.int .i64 0], .blk g6 25 [.slice AC n cC, .slice A60 (i + 1) c60, .int .i64 (0), .slice none 0 0, .int .i64 0, .int .i64 0, .int .i64 0], .row AC cC 62 1 n (C.map fV), .row A60 c60 22 1 (i + 1) (S.map svV ++ [svV (A58, n, c58)])] ++ [.keep K wk, .row A58 c58 62 1 n (us.map fV)]) := hS
            have hP1 := hP.lift (ok' := fun b => ∃ it ∈ [It.keep K wk, .row A58 c58 62 1 n (us.map fV)], it.fp b) fun h => (hS.keepRd (i := 7) rfl h).weaken (keep_mem (x := .keep K wk) (.head _))
            have hP2 := hP1.snoc (x := (A58, n, c58)) (l := us) (rdE_of (hS.rowRd (i := 8) rfl (keep_mem (.tail _ (.head _)))) hul) hul.symm (by omega) huf
            refine ⟨i + 1, S ++ [(A58, n, c58)], G ++ [us], a5, A60, c60, _, _, ha.sub ⟨rfl, rfl, rfl, rfl, rfl, rfl, rfl, rfl, trivial⟩, by omega, by omega, by omega, by rw [List.length_append, hGl]; rfl, hD5, hP2, ?_⟩
            rw [List.map_append]
            exact hS.keepRest
          · skip
            refine gl_callP rfl rfl rfl rfl Tryd.func59 rfl rfl rfl (cFloats_calls gc _ A l.length c l a [] _ _ n hS hr rfl hlen (by omega) (by omega)) ?_
            rintro _ w58 (⟨x, y, a9, hx, rfl, hS⟩ | ⟨us, a5, A58, c58, hx, rfl, hS⟩)
            · refine .inr ⟨_, rfl, ?_⟩
              try simp only [x_then_panic, x_block_panic]
              exact gk_dp ⟨rfl, rfl, rfl, trivial⟩ (hD.trans (dpRows_e (k := kG - (i + 1)) (by omega) (show rFs l C.length a = _ by rw [hCl, hx]))) hS
            refine .inl ⟨_, rfl, ?_⟩
            obtain ⟨hul, hf2, huf⟩ := rFs_ok hx
            have ha5 := hf2 (by omega)
            have hD5 := hD.trans (dpRows_s (k := kG - (i + 1)) (by omega) (show rFs l C.length a = _ by rw [hCl, hx]))
            have hS := hS.toEnd
            clear hx
            refine gl_nil ?_
            refine ga_next ((((hS.blank 0).blank 4).blank 6).pre 8) fun hK => ?_
            refine ga_two 1 5 (by kernel_rfl) rfl rfl ?_ ?_
            · skip
              refine gl_op rfl rfl rfl (op_loadB 4 hT hS rfl rfl rfl rfl rfl rfl) ?_
              refine gl_nil ?_
              refine ga_next ((((hS.blank 0).blank 4).blank 6).pre 8) fun hK => ?_
              refine ga_one 5 (by kernel_rfl) rfl ?_
              refine gl_lit hT hS el22 rfl rfl rfl rfl rfl rfl rfl rfl rfl fun g59 w59 hS => ?_
              refine gl_nil ?_
              refine ga_next ((((hS.blank 0).blank 4).blank 6).pre 8) fun hK => ?_
              refine ga_one 6 (by kernel_rfl) rfl ?_
              refine gl_append 6 hT hS el22 (hS.rd (i := 9) rfl) (rfl) rfl rfl rfl rfl rfl rfl rfl rfl (by first | omega | (simp; omega)) (by first | omega | (simp; omega)) fun A60 c60 w60 hS => ?_
              have hS := hS.erase 9
              refine gl_nil ?_
              refine ga_next ((((hS.blank 0).blank 4).blank 6).pre 8) fun hK => ?_
              refine ga_take 7 rfl rfl rfl rfl (by kernel_rfl) (hpan 61 fun _ _ _ => rfl) hK (fun w1 hS => op_fieldB 1 rfl Tryd.underlying25 rfl el23 rfl rfl) ?_
              refine ga_one 8 (by kernel_rfl) rfl ?_
              refine gl_store 4 hS el23.cellsOf.1 el23.cellsOf.2 rfl rfl rfl rfl rfl rfl rfl rfl fun wcode_go_318 hS => ?_
              refine gl_nil ?_
              refine ga_next ((((hS.blank 0).blank 4).blank 6).pre 8) fun hK => ?_
              refine ga_done (by kernel_rfl) ?_
              refine hK17 _ _ ?_
              clear hK17; try clear K17
              refine gc_region ?_
              first | refine gl_fit hT rfl rfl rfl rfl (by omega) ?_ | refine gl_op rfl rfl rfl (op_pure hT rfl) ?_
              refine gl_op rfl rfl rfl (op_pure hT rfl) ?_
              refine gl_nil ?_
              intro a' ha
              have hS : St w.heap.size w _ ([.blk gc 54 (cuC A l.length c a5 []), .blk g2 25 zP, .blk g3 34 [.int .i64 0], .blk g4 3 [.int .i64 0], .blk g6 25 [.slice AC n cC, .slice A60 (i + 1) c60, .int .i64 (0), .slice none 0 0, .int .i64 0, .int .i64 0, .int .i64 0], .row AC cC 62 1 n (C.map fV), .row A60 c60 22 1 (i + 1) (S.map svV ++ [svV (A58, n, c58)])] ++ [.keep K wk, .row A58 c58 62 1 n (us.map fV)]) := hS
              have hP1 := hP.lift (ok' := fun b => ∃ it ∈ [It.keep K wk, .row A58 c58 62 1 n (us.map fV)], it.fp b) fun h => (hS.keepRd (i := 7) rfl h).weaken (keep_mem (x := .keep K wk) (.head _))
              have hP2 := hP1.snoc (x := (A58, n, c58)) (l := us) (rdE_of (hS.rowRd (i := 8) rfl (keep_mem (.tail _ (.head _)))) hul) hul.symm (by omega) huf
              refine ⟨i + 1, S ++ [(A58, n, c58)], G ++ [us], a5, A60, c60, _, _, ha.sub ⟨rfl, rfl, rfl, rfl, rfl, rfl, rfl, rfl, trivial⟩, by omega, by omega, by omega, by rw [List.length_append, hGl]; rfl, hD5, hP2, ?_⟩
              rw [List.map_append]
              exact hS.keepRest
            · skip
              refine gl_lit hT hS el22 rfl rfl rfl rfl rfl rfl rfl rfl rfl fun g59 w59 hS => ?_
              refine gl_nil ?_
              refine ga_next ((((hS.blank 0).blank 4).blank 6).pre 8) fun hK => ?_
              refine ga_one 1 (by kernel_rfl) rfl ?_
              refine gl_op rfl rfl rfl (op_loadB 4 hT hS rfl rfl rfl rfl rfl rfl) ?_
              refine gl_nil ?_
              refine ga_next ((((hS.blank 0).blank 4).blank 6).pre 8) fun hK => ?_
              refine ga_one 6 (by kernel_rfl) rfl ?_
              refine gl_append 6 hT hS el22 (hS.rd (i := 9) rfl) (rfl) rfl rfl rfl rfl rfl rfl rfl rfl (by first | omega | (simp; omega)) (by first | omega | (simp; omega)) fun A60 c60 w60 hS => ?_
              have hS := hS.erase 9
              refine gl_nil ?_
              refine ga_next ((((hS.blank 0).blank 4).blank 6).pre 8) fun hK => ?_
              refine ga_take 7 rfl rfl rfl rfl (by kernel_rfl) (hpan 61 fun _ _ _ => rfl) hK (fun w1 hS => op_fieldB 1 rfl Tryd.underlying25 rfl el23 rfl rfl) ?_
              refine ga_one 8 (by kernel_rfl) rfl ?_
              refine gl_store 4 hS el23.cellsOf.1 el23.cellsOf.2 rfl rfl rfl rfl rfl rfl rfl rfl fun wcode_go_318 hS => ?_
              refine gl_nil ?_
              refine ga_next ((((hS.blank 0).blank 4).blank 6).pre 8) fun hK => ?_
              refine ga_done (by kernel_rfl) ?_
              refine hK17 _ _ ?_
              clear hK17; try clear K17
              refine gc_region ?_
              first | refine gl_fit hT rfl rfl rfl rfl (by omega) ?_ | refine gl_op rfl rfl rfl (op_pure hT rfl) ?_
              refine gl_op rfl rfl rfl (op_pure hT rfl) ?_
              refine gl_nil ?_
              intro a' ha
              have hS : St w.heap.size w _ ([.blk gc 54 (cuC A l.length c a5 []), .blk g2 25 zP, .blk g3 34 [.int .i64 0], .blk g4 3 [.int .i64 0], .blk g6 25 [.slice AC n cC, .slice A60 (i + 1) c60, .int .i64 (0), .slice none 0 0, .int .i64 0, .int .i64 0, .int .i64 0], .row AC cC 62 1 n (C.map fV), .row A60 c60 22 1 (i + 1) (S.map svV ++ [svV (A58, n, c58)])] ++ [.keep K wk, .row A58 c58 62 1 n (us.map fV)]) := hS
              have hP1 := hP.lift (ok' := fun b => ∃ it ∈ [It.keep K wk, .row A58 c58 62 1 n (us.map fV)], it.fp b) fun h => (hS.keepRd (i := 7) rfl h).weaken (keep_mem (x := .keep K wk) (.head _))
              have hP2 := hP1.snoc (x := (A58, n, c58)) (l := us) (rdE_of (hS.rowRd (i := 8) rfl (keep_mem (.tail _ (.head _)))) hul) hul.symm (by omega) huf
              refine ⟨i + 1, S ++ [(A58, n, c58)], G ++ [us], a5, A60, c60, _, _, ha.sub ⟨rfl, rfl, rfl, rfl, rfl, rfl, rfl, rfl, trivial⟩, by omega, by omega, by omega, by rw [List.length_append, hGl]; rfl, hD5, hP2, ?_⟩
              rw [List.map_append]
              exact hS.keepRest
        · try simp only [decide_eq_true_eq, decide_eq_false_iff_not, Bool.not_eq_true', Bool.not_eq_false', Int.not_lt, Int.not_le, Nat.not_lt, Nat.not_le, Bool.true_eq, Bool.false_eq, reduceCtorEq] at c53
          have hik : i = kG := by omega
          subst hik
          rw [Nat.sub_self] at hD
          have hD : decPropV l = dpT l ⟨C, G, 0, [], 0, 0, 0⟩ a := hD
          refine gc_exit ?_
          refine hK13 _ _ ?_
          clear hK13; try clear K13
          refine gc_seq fun K18 hK18 => ?_
          refine gc_region ?_
          refine gl_op rfl rfl rfl (op_pure hT rfl) ?_
          refine gl_op rfl rfl rfl (op_pure hT rfl) ?_
          refine gl_op rfl rfl rfl (op_fieldB 1 rfl Tryd.underlying54 rfl el3 rfl rfl) ?_
          refine gl_op rfl rfl rfl (op_loadB 0 hT hS rfl rfl rfl rfl rfl rfl) ?_
          refine gl_op rfl rfl rfl (op_pure hT rfl) ?_
          refine gl_nil ?_
          refine hK18 _ _ ?_
          clear hK18; try clear K18
          refine gc_seq fun K19 hK19 => ?_
          refine gc_region ?_
          refine gl_op rfl rfl rfl (op_pure hT rfl) ?_
          refine gl_callP rfl rfl rfl rfl Tryd.func51 rfl rfl rfl (cUint_calls gc _ A l.length c l a [] _ _ hS hr rfl hlen) ?_
          rintro _ w68 (⟨x, y, hx, rfl, hS⟩ | ⟨t9, a6, hx, rfl, hS⟩)
          · refine .inr ⟨_, rfl, ?_⟩
            try simp only [x_then_panic, x_block_panic]
            exact gk_dp ⟨rfl, rfl, rfl, trivial⟩ (hD.trans (dpT_e hx)) hS
          refine .inl ⟨_, rfl, ?_⟩
          have hu3 := rU_ok hx
          have hD : decPropV l = dpM l ⟨C, G, t9 - 1, [], 0, 0, 0⟩ a a6 := hD.trans (dpT_0 hx)
          clear hx
          refine gl_fit hT rfl rfl rfl rfl (by omega) ?_
          refine gl_op rfl rfl rfl (op_fieldB 2 rfl Tryd.underlying25 rfl el3 rfl rfl) ?_
          refine gl_store 4 hS el3.cellsOf.1 el3.cellsOf.2 rfl rfl rfl rfl rfl rfl rfl rfl fun wcode_go_321 hS => ?_
          refine gl_nil ?_
          refine hK19 _ _ ?_
          clear hK19; try clear K19
          refine gc_seq fun K20 hK20 => ?_
          refine gc_region ?_
          refine gl_op rfl rfl rfl (op_pure hT rfl) ?_
          refine gl_op rfl rfl rfl (op_pure hT rfl) ?_
          refine gl_op rfl rfl rfl (op_fieldB 1 rfl Tryd.underlying54 rfl el3 rfl rfl) ?_
          refine gl_op rfl rfl rfl (op_loadB 0 hT hS rfl rfl rfl rfl rfl rfl) ?_
          refine gl_op rfl rfl rfl (op_pure hT rfl) ?_
          refine gl_nil ?_
          refine hK20 _ _ ?_
          clear hK20; try clear K20
          refine gc_seq fun K21 hK21 => ?_
          refine gc_region ?_
          refine gl_op rfl rfl rfl (op_pure hT rfl) ?_
          refine gl_callP rfl rfl rfl rfl Tryd.func51 rfl rfl rfl (cUint_calls gc _ A l.length c l a6 [] _ _ hS hr rfl hlen) ?_
          rintro _ w76 (⟨x, y, hx, rfl, hS⟩ | ⟨m9, a7, hx, rfl, hS⟩)
          · refine .inr ⟨_, rfl, ?_⟩
            try simp only [x_then_panic, x_block_panic]
            exact gk_dp ⟨rfl, rfl, rfl, trivial⟩ (hD.trans (dpM_e hx)) hS
          refine .inl ⟨_, rfl, ?_⟩
          have hu4 := rU_ok hx
          obtain ⟨kM, rfl⟩ : ∃ n : Nat, m9 = n := ⟨m9.toNat, by omega⟩
          have hxN := hx
          clear hx
          refine gl_op rfl rfl rfl (op_pure hT rfl) ?_
          refine gl_nil ?_
          refine hK21 _ _ ?_
          clear hK21; try clear K21
          refine gc_seq fun K22 hK22 => ?_
          refine gc_seq fun K23 hK23 => ?_
          refine gc_region ?_
          refine gl_op rfl rfl rfl (op_pure hT rfl) ?_
          refine gl_op rfl rfl rfl (op_pure hT rfl) ?_
          refine gl_nil ?_
          refine hK23 _ _ ?_
          clear hK23; try clear K23
          refine gc_cond rfl rfl (fun c78 => ?_) (fun c78 => ?_)
          · try simp only [decide_eq_true_eq, decide_eq_false_iff_not, Bool.not_eq_true', Bool.not_eq_false', Int.not_lt, Int.not_le, Nat.not_lt, Nat.not_le, Bool.true_eq, Bool.false_eq, reduceCtorEq] at c78
            refine gc_region ?_
            refine gl_op rfl rfl rfl (op_pure hT rfl) ?_
            refine gl_op rfl rfl rfl (op_pure hT rfl) ?_
            refine gl_callP rfl rfl rfl rfl Tryd.func54 rfl rfl rfl (fail_calls _ 65 a6 _) ?_
            rintro _ w81 ⟨rfl, hb81⟩
            refine .inr ⟨_, rfl, ?_⟩
            try simp only [x_then_panic, x_block_panic]
            exact gk_dp ⟨rfl, rfl, rfl, trivial⟩ (hD.trans (dpM_b hxN (by omega))) (hS.eqv hb81)
          · try simp only [decide_eq_true_eq, decide_eq_false_iff_not, Bool.not_eq_true', Bool.not_eq_false', Int.not_lt, Int.not_le, Nat.not_lt, Nat.not_le, Bool.true_eq, Bool.false_eq, reduceCtorEq] at c78
            have hD := hD.trans (dpM_0 hxN (by omega))
            clear hxN
            refine gc_skip ?_
            refine hK22 _ _ ?_
            clear hK22; try clear K22
            refine gc_seq fun K24 hK24 => ?_
            refine gc_seq fun K25 hK25 => ?_
            refine gc_region ?_
            refine gl_op rfl rfl rfl (op_pure hT rfl) ?_
            refine gl_op rfl rfl rfl (op_pure hT rfl) ?_
            refine gl_nil ?_
            refine hK25 _ _ ?_
            clear hK25; try clear K25
            refine gc_block ?_
            have hS := (hS.nil 22 1).keep0
            have hPG := hP
            have hSGl := hSl
            refine gc_loop (fun kk a' w' => ∃ (i2 : Nat) (S2 : List Sv) (M : List (List Nat)) (b : Int) (AM : Option Addr) (cM : Nat) (K2 : Nat → Prop) (wk2 : World), Fr ⟨144, dpD g3 g4⟩ a' [(2, .pointer (some ⟨g2, 0, none⟩)), (3, .pointer (some ⟨g3, 0, none⟩)), (4, .pointer (some ⟨g4, 0, none⟩)), (5, .pointer (some ⟨gc, 0, none⟩)), (6, .pointer (some ⟨g6, 0, none⟩)), (10, .int .i64 a), (82, .int .i64 (kM : Nat)), (83, .int .i64 (i2 : Nat))] ∧ i2 ≤ kM ∧ kk = kM + 1 - i2 ∧ (0 ≤ b ∧ b ≤ l.length) ∧
              M.length = i2 ∧ decPropV l = dpClaims l ⟨C, G, t9 - 1, [], 0, 0, 0⟩ a (kM - i2) M b ∧ Fcs wk2 K2 S2 M ∧ St w.heap.size w w' [.blk gc 54 (cuC A l.length c b []), .blk g2 25 zP, .blk g3 34 [.int .i64 0], .blk g4 3 [.int .i64 0], .blk g6 25 [.slice AC n cC, .slice AG i cG, .int .i64 (t9 - 1), .slice AM i2 cM, .int .i64 0, .int .i64 0, .int .i64 0], .row AC cC 62 1 n (C.map fV), .row AG cG 22 1 i (S.map svV), .keep K wk, .row AM cM 22 1 i2 (S2.map svV), .keep K2 wk2]) (kM + 1) ?_ ?_ ?_
            · intro a' ha; exact ⟨0, [], [], a7, none, 0, _, _, ha.sub ⟨rfl, rfl, rfl, rfl, rfl, rfl, rfl, rfl, trivial⟩, by omega, by omega, by omega, rfl, hD, ⟨rfl, fun i x l h => by simp at h⟩, hS⟩
            · rintro a' w' ⟨i, _, _, _, _, _, _, _, _, h1, h2, _⟩; omega
            clear hS hD hP hSl
            rintro kk a' w1 ⟨i2, S2, M, b, AM, cM, K2, wk2, hF, hi2, hk2, hbb, hMl, hD, hP, hS⟩
            refine gc_of hF ?_
            clear hF
            have hSl := hP.1
            refine gc_seq fun K26 hK26 => ?_
            refine gc_region ?_
            refine gl_op rfl rfl rfl (op_pure hT rfl) ?_
            refine gl_nil ?_
            refine hK26 _ _ ?_
            clear hK26; try clear K26
            refine gc_seq fun K27 hK27 => ?_
            refine gc_cond rfl rfl (fun c84 => ?_) (fun c84 => ?_)
            · try simp only [decide_eq_true_eq, decide_eq_false_iff_not, Bool.not_eq_true', Bool.not_eq_false', Int.not_lt, Int.not_le, Nat.not_lt, Nat.not_le, Bool.true_eq, Bool.false_eq, reduceCtorEq] at c84
              refine gc_skip ?_
              refine hK27 _ _ ?_
              clear hK27; try clear K27
              refine gc_seq fun K28 hK28 => ?_
              refine gc_block ?_
              refine gc_seq fun K29 hK29 => ?_
              refine gc_region ?_
              refine gl_op rfl rfl rfl (op_pure hT rfl) ?_
              refine gl_op rfl rfl rfl (op_pure hT rfl) ?_
              refine gl_nil ?_
              refine hK29 _ _ ?_
              clear hK29; try clear K29
              refine gc_seq fun K30 hK30 => ?_
              refine gc_region ?_
              refine gl_op rfl rfl rfl (op_pure hT rfl) ?_
              refine gl_op rfl rfl rfl (op_pure hT rfl) ?_
              refine gl_op rfl rfl rfl (op_fieldB 1 rfl Tryd.underlying54 rfl el3 rfl rfl) ?_
              refine gl_op rfl rfl rfl (op_loadB 0 hT hS rfl rfl rfl rfl rfl rfl) ?_
              refine gl_op rfl rfl rfl (op_pure hT rfl) ?_
              refine gl_nil ?_
              refine hK30 _ _ ?_
              clear hK30; try clear K30
              refine gc_seq fun K31 hK31 => ?_
              refine gc_region ?_
              refine gl_op rfl rfl rfl (op_pure hT rfl) ?_
              refine gl_callP rfl rfl rfl rfl Tryd.func51 rfl rfl rfl (cUint_calls gc _ A l.length c l b [] _ _ hS hr rfl hlen) ?_
              rintro _ w91 (⟨x, y, hx, rfl, hS⟩ | ⟨m9, a8, hx, rfl, hS⟩)
              · refine .inr ⟨_, rfl, ?_⟩
                try simp only [x_then_panic, x_block_panic]
                exact gk_dp ⟨rfl, rfl, rfl, trivial⟩ (hD.trans (dpClaims_e (k := kM - (i2 + 1)) (by omega) hx)) hS
              refine .inl ⟨_, rfl, ?_⟩
              have hu5 := rU_ok hx
              obtain ⟨m, rfl⟩ : ∃ n : Nat, m9 = n := ⟨m9.toNat, by omega⟩
              have hxN := hx
              clear hx
              refine gl_op rfl rfl rfl (op_pure hT rfl) ?_
              refine gl_nil ?_
              refine hK31 _ _ ?_
              clear hK31; try clear K31
              refine gc_seq fun K32 hK32 => ?_
              refine gc_seq fun K33 hK33 => ?_
              refine gc_region ?_
              refine gl_op rfl rfl rfl (op_pure hT rfl) ?_
              refine gl_op rfl rfl rfl (op_pure hT rfl) ?_
              refine gl_op rfl rfl rfl (op_pure hT rfl) ?_
              refine gl_split (t := 94) rfl (fun c94 => ?_) (fun c94 => ?_)
              · try simp only [decide_eq_true_eq, decide_eq_false_iff_not, Bool.not_eq_true', Bool.not_eq_false', Int.not_lt, Int.not_le, Nat.not_lt, Nat.not_le, Bool.true_eq, Bool.false_eq, reduceCtorEq] at c94
                refine gl_pass rfl rfl rfl rfl rfl rfl ?_
                refine gl_pass rfl rfl rfl rfl rfl rfl ?_
                refine gl_op rfl rfl rfl (op_pure hT rfl) ?_
                refine gl_op rfl rfl rfl (op_pure hT rfl) ?_
                refine gl_pass rfl rfl rfl rfl rfl rfl ?_
                refine gl_pass rfl rfl rfl rfl rfl rfl ?_
                refine gl_pass rfl rfl rfl rfl rfl rfl ?_
                refine gl_none rfl rfl rfl rfl rfl ?_
                refine gl_none rfl rfl rfl rfl rfl ?_
                refine gl_none rfl rfl rfl rfl rfl ?_
                refine gl_none rfl rfl rfl rfl rfl ?_
                refine gl_none rfl rfl rfl rfl rfl ?_
                refine gl_none rfl rfl rfl rfl rfl ?_
                refine gl_none rfl rfl rfl rfl rfl ?_
                refine gl_pass rfl rfl rfl rfl rfl rfl ?_
                refine gl_op rfl rfl rfl (op_pure hT rfl) ?_
                refine gl_nil ?_
                refine hK33 _ _ ?_
                clear hK33; try clear K33
                refine gc_cond_t rfl ?_
                refine gc_region ?_
                refine gl_op rfl rfl rfl (op_pure hT rfl) ?_
                refine gl_op rfl rfl rfl (op_pure hT rfl) ?_
                refine gl_callP rfl rfl rfl rfl Tryd.func54 rfl rfl rfl (fail_calls _ 63 b _) ?_
                rintro _ w113 ⟨rfl, hb113⟩
                refine .inr ⟨_, rfl, ?_⟩
                try simp only [x_then_panic, x_block_panic]
                exact gk_dp ⟨rfl, rfl, rfl, trivial⟩ (hD.trans (dpClaims_b (k := kM - (i2 + 1)) (by omega) hxN (by first | (left; omega) | (right; left; omega) | (right; right; exact ⟨by omega, by omega⟩)))) (hS.eqv hb113)
              · try simp only [decide_eq_true_eq, decide_eq_false_iff_not, Bool.not_eq_true', Bool.not_eq_false', Int.not_lt, Int.not_le, Nat.not_lt, Nat.not_le, Bool.true_eq, Bool.false_eq, reduceCtorEq] at c94
                refine gl_un rfl rfl rfl rfl ?_
                refine gl_op rfl rfl rfl (op_pure hT rfl) ?_
                refine gl_un rfl rfl rfl rfl ?_
                refine gl_op rfl rfl rfl (op_pure hT rfl) ?_
                refine gl_op rfl rfl rfl (op_pure hT rfl) ?_
                refine gl_op rfl rfl rfl (op_pure hT rfl) ?_
                refine gl_split (t := 98) rfl (fun c98 => ?_) (fun c98 => ?_)
                · try simp only [decide_eq_true_eq, decide_eq_false_iff_not, Bool.not_eq_true', Bool.not_eq_false', Int.not_lt, Int.not_le, Nat.not_lt, Nat.not_le, Bool.true_eq, Bool.false_eq, reduceCtorEq] at c98
                  refine gl_pass rfl rfl rfl rfl rfl rfl ?_
                  refine gl_pass rfl rfl rfl rfl rfl rfl ?_
                  refine gl_pass rfl rfl rfl rfl rfl rfl ?_
                  refine gl_none rfl rfl rfl rfl rfl ?_
                  refine gl_none rfl rfl rfl rfl rfl ?_
                  refine gl_none rfl rfl rfl rfl rfl ?_
                  refine gl_none rfl rfl rfl rfl rfl ?_
                  refine gl_none rfl rfl rfl rfl rfl ?_
                  refine gl_none rfl rfl rfl rfl rfl ?_
                  refine gl_none rfl rfl rfl rfl rfl ?_
                  refine gl_pass rfl rfl rfl rfl rfl rfl ?_
                  refine gl_op rfl rfl rfl (op_pure hT rfl) ?_
                  refine gl_nil ?_
                  refine hK33 _ _ ?_
                  clear hK33; try clear K33
                  refine gc_cond_t rfl ?_
                  refine gc_region ?_
                  refine gl_op rfl rfl rfl (op_pure hT rfl) ?_
                  refine gl_op rfl rfl rfl (op_pure hT rfl) ?_
                  refine gl_callP rfl rfl rfl rfl Tryd.func54 rfl rfl rfl (fail_calls _ 63 b _) ?_
                  rintro _ w113 ⟨rfl, hb113⟩
                  refine .inr ⟨_, rfl, ?_⟩
                  try simp only [x_then_panic, x_block_panic]
                  exact gk_dp ⟨rfl, rfl, rfl, trivial⟩ (hD.trans (dpClaims_b (k := kM - (i2 + 1)) (by omega) hxN (by first | (left; omega) | (right; left; omega) | (right; right; exact ⟨by omega, by omega⟩)))) (hS.eqv hb113)
                · try simp only [decide_eq_true_eq, decide_eq_false_iff_not, Bool.not_eq_true', Bool.not_eq_false', Int.not_lt, Int.not_le, Nat.not_lt, Nat.not_le, Bool.true_eq, Bool.false_eq, reduceCtorEq] at c98
                  refine gl_un rfl rfl rfl rfl ?_
                  refine gl_op rfl rfl rfl (op_pure hT rfl) ?_
                  refine gl_un rfl rfl rfl rfl ?_
                  refine gl_op rfl rfl rfl (op_pure hT rfl) ?_
                  refine gl_un rfl rfl rfl rfl ?_
                  refine gl_op rfl rfl rfl (op_pure hT rfl) ?_
                  refine gl_split (t := 101) rfl (fun c101 => ?_) (fun c101 => ?_)
                  · try simp only [decide_eq_true_eq, decide_eq_false_iff_not, Bool.not_eq_true', Bool.not_eq_false', Int.not_lt, Int.not_le, Nat.not_lt, Nat.not_le, Bool.true_eq, Bool.false_eq, reduceCtorEq] at c101
                    refine gl_un rfl rfl rfl rfl ?_
                    refine gl_op rfl rfl rfl (op_pure hT rfl) ?_
                    refine gl_un rfl rfl rfl rfl ?_
                    refine gl_op rfl rfl rfl (op_fieldB 3 rfl Tryd.underlying25 rfl el23 rfl rfl) ?_
                    refine gl_un rfl rfl rfl rfl ?_
                    refine gl_op rfl rfl rfl (op_loadB 4 hT hS rfl rfl rfl rfl rfl rfl) ?_
                    refine gl_un rfl rfl rfl rfl ?_
                    have hM0 : M[0]? = some (M.getD 0 []) := by rw [List.getD_eq_getElem?_getD, List.getElem?_eq_getElem (by omega)]; rfl
                    obtain ⟨x, hx2⟩ : ∃ x, S2[0]? = some x := ⟨_, List.getElem?_eq_getElem (by omega)⟩
                    have hx3 := hP.2 0 x _ hx2 hM0
                    obtain ⟨ad, hA, hc5⟩ := (rdE_of (l := S2) (enc := svV) (hS.rd (i := 8) rfl) (by omega)).at (none, 0, 0) (i := (0 : Int)) (by omega) (by omega)
                    have hug : S2.getD ((0 : Int)).toNat (none, 0, 0) = x := by show S2.getD 0 _ = x; rw [List.getD_eq_getElem?_getD, hx2]; rfl
                    rw [hug] at hc5
                    refine gl_op rfl rfl rfl (op_indexAddr hT rfl rfl el22.cellsOf.1 el22.cellsOf.2 rfl rfl (by omega) (by omega) hA) ?_
                    refine gl_un rfl rfl rfl rfl ?_
                    refine gl_op rfl rfl rfl (op_load hT rfl rfl rfl rfl hc5) ?_
                    refine gl_un rfl rfl rfl rfl ?_
                    refine gl_op rfl rfl rfl (op_pure hT rfl) ?_
                    refine gl_un rfl rfl rfl rfl ?_
                    refine gl_op rfl rfl rfl (op_pure hT rfl) ?_
                    refine gl_un rfl rfl rfl rfl ?_
                    refine gl_op rfl rfl rfl (op_pure hT rfl) ?_
                    refine gl_op rfl rfl rfl (op_pure hT rfl) ?_
                    refine gl_nil ?_
                    refine hK33 _ _ ?_
                    clear hK33; try clear K33
                    refine gc_cond rfl rfl (fun c110 => ?_) (fun c110 => ?_)
                    · try simp only [decide_eq_true_eq, decide_eq_false_iff_not, Bool.not_eq_true', Bool.not_eq_false', Int.not_lt, Int.not_le, Nat.not_lt, Nat.not_le, Bool.true_eq, Bool.false_eq, reduceCtorEq] at c110
                      refine gc_region ?_
                      refine gl_op rfl rfl rfl (op_pure hT rfl) ?_
                      refine gl_op rfl rfl rfl (op_pure hT rfl) ?_
                      refine gl_callP rfl rfl rfl rfl Tryd.func54 rfl rfl rfl (fail_calls _ 63 b _) ?_
                      rintro _ w113 ⟨rfl, hb113⟩
                      refine .inr ⟨_, rfl, ?_⟩
                      try simp only [x_then_panic, x_block_panic]
                      exact gk_dp ⟨rfl, rfl, rfl, trivial⟩ (hD.trans (dpClaims_b (k := kM - (i2 + 1)) (by omega) hxN (by first | (left; omega) | (right; left; omega) | (right; right; exact ⟨by omega, by omega⟩)))) (hS.eqv hb113)
                    · try simp only [decide_eq_true_eq, decide_eq_false_iff_not, Bool.not_eq_true', Bool.not_eq_false', Int.not_lt, Int.not_le, Nat.not_lt, Nat.not_le, Bool.true_eq, Bool.false_eq, reduceCtorEq] at c110
                      refine gc_skip ?_
                      refine hK32 _ _ ?_
                      clear hK32; try clear K32
                      refine gc_anyS (((hS.blank 0).blank 4).blank 8) (by kernel_rfl) rfl fun nq31 hK => ?_
                      have hS := hS.dr nq31
                      have hnc : ¬ ((m : Int) < 2 ∨ 257 < (m : Int) ∨ (0 < M.length ∧ (m : Int) ≠ (M.getD 0 []).length)) := by first | omega | (rintro (h | h | ⟨h, h2⟩) <;> first | omega | (exact h2 (by omega)))
                      have hm : m ≤ 257 := by omega
                      refine ga_take 0 rfl rfl rfl rfl (by kernel_rfl) (hpan 114 fun _ _ _ => rfl) hK (fun w1 hS => op_fieldB 3 rfl Tryd.underlying25 rfl el23 rfl rfl) ?_
                      refine ga_take 2 rfl rfl rfl rfl (by kernel_rfl) (hpan 116 fun _ _ _ => rfl) hK (fun w1 hS => op_pure hT rfl) ?_
                      refine ga_take 3 rfl rfl rfl rfl (by kernel_rfl) (hpan 117 fun _ _ _ => rfl) hK (fun w1 hS => op_pure hT rfl) ?_
                      refine ga_two 1 4 (by kernel_rfl) rfl rfl ?_ ?_
                      · skip
                        refine gl_op rfl rfl rfl (op_loadB 4 hT hS rfl rfl rfl rfl rfl rfl) ?_
                        refine gl_nil ?_
                        refine ga_next ((((hS.blank 0).blank 4).blank 8).pre 10) fun hK => ?_
                        refine ga_one 4 (by kernel_rfl) rfl ?_
                        refine gl_callP rfl rfl rfl rfl Tryd.func59 rfl rfl rfl (cFloats_calls gc _ A l.length c l a8 [] _ _ m hS hr rfl hlen (by omega) (by omega)) ?_
                        rintro _ w118 (⟨x, y, a9, hx, rfl, hS⟩ | ⟨us, a5, A118, c118, hx, rfl, hS⟩)
                        · refine .inr ⟨_, rfl, ?_⟩
                          try simp only [x_then_panic, x_block_panic]
                          exact gk_dp ⟨rfl, rfl, rfl, trivial⟩ (hD.trans (dpClaims_f (k := kM - (i2 + 1)) (by omega) hxN hnc hx)) hS
                        refine .inl ⟨_, rfl, ?_⟩
                        obtain ⟨hul, hf2, huf⟩ := rFs_ok hx
                        have ha5 := hf2 (by omega)
                        have hD7 := hD.trans (dpClaims_s (k := kM - (i2 + 1)) (by omega) hxN hnc hx)
                        have hS := hS.toEnd
                        clear hx
                        refine gl_nil ?_
                        refine ga_next ((((hS.blank 0).blank 4).blank 8).pre 10) fun hK => ?_
                        refine ga_one 5 (by kernel_rfl) rfl ?_
                        refine gl_lit hT hS el22 rfl rfl rfl rfl rfl rfl rfl rfl rfl fun g119 w119 hS => ?_
                        refine gl_nil ?_
                        refine ga_next ((((hS.blank 0).blank 4).blank 8).pre 10) fun hK => ?_
                        refine ga_one 6 (by kernel_rfl) rfl ?_
                        refine gl_append 8 hT hS el22 (hS.rd (i := 11) rfl) (rfl) rfl rfl rfl rfl rfl rfl rfl rfl (by first | omega | (simp; omega)) (by first | omega | (simp; omega)) fun A120 c120 w120 hS => ?_
                        have hS := hS.erase 11
                        refine gl_nil ?_
                        refine ga_next ((((hS.blank 0).blank 4).blank 8).pre 10) fun hK => ?_
                        refine ga_take 7 rfl rfl rfl rfl (by kernel_rfl) (hpan 121 fun _ _ _ => rfl) hK (fun w1 hS => op_fieldB 3 rfl Tryd.underlying25 rfl el23 rfl rfl) ?_
                        refine ga_one 8 (by kernel_rfl) rfl ?_
                        refine gl_store 4 hS el23.cellsOf.1 el23.cellsOf.2 rfl rfl rfl rfl rfl rfl rfl rfl fun wcode_go_333 hS => ?_
                        refine gl_nil ?_
                        refine ga_next ((((hS.blank 0).blank 4).blank 8).pre 10) fun hK => ?_
                        refine ga_done (by kernel_rfl) ?_
                        refine hK28 _ _ ?_
                        clear hK28; try clear K28
                        refine gc_region ?_
                        first | refine gl_fit hT rfl rfl rfl rfl (by omega) ?_ | refine gl_op rfl rfl rfl (op_pure hT rfl) ?_
                        refine gl_op rfl rfl rfl (op_pure hT rfl) ?_
                        refine gl_nil ?_
                        intro a' ha
                        have hS : St w.heap.size w _ ([.blk gc 54 (cuC A l.length c a5 []), .blk g2 25 zP, .blk g3 34 [.int .i64 0], .blk g4 3 [.int .i64 0], .blk g6 25 [.slice AC n cC, .slice AG i cG, .int .i64 (t9 - 1), .slice A120 (i2 + 1) c120, .int .i64 0, .int .i64 0, .int .i64 0], .row AC cC 62 1 n (C.map fV), .row AG cG 22 1 i (S.map svV), .keep K wk, .row A120 c120 22 1 (i2 + 1) (S2.map svV ++ [svV (A118, m, c118)])] ++ [.keep K2 wk2, .row A118 c118 62 1 m (us.map fV)]) := hS
                        have hP1 := hP.lift (ok' := fun b => ∃ it ∈ [It.keep K2 wk2, .row A118 c118 62 1 m (us.map fV)], it.fp b) fun h => (hS.keepRd (i := 9) rfl h).weaken (keep_mem (x := .keep K2 wk2) (.head _))
                        have hP2 := hP1.snoc (x := (A118, m, c118)) (l := us) (rdE_of (hS.rowRd (i := 10) rfl (keep_mem (.tail _ (.head _)))) hul) hul.symm (by omega) huf
                        refine ⟨i2 + 1, S2 ++ [(A118, m, c118)], M ++ [us], a5, A120, c120, _, _, ha.sub ⟨rfl, rfl, rfl, rfl, rfl, rfl, rfl, rfl, trivial⟩, by omega, by omega, by omega, by rw [List.length_append, hMl]; rfl, hD7, hP2, ?_⟩
                        rw [List.map_append]
                        exact hS.keepRest
                      · skip
                        refine gl_callP rfl rfl rfl rfl Tryd.func59 rfl rfl rfl (cFloats_calls gc _ A l.length c l a8 [] _ _ m hS hr rfl hlen (by omega) (by omega)) ?_
                        rintro _ w118 (⟨x, y, a9, hx, rfl, hS⟩ | ⟨us, a5, A118, c118, hx, rfl, hS⟩)
                        · refine .inr ⟨_, rfl, ?_⟩
                          try simp only [x_then_panic, x_block_panic]
                          exact gk_dp ⟨rfl, rfl, rfl, trivial⟩ (hD.trans (dpClaims_f (k := kM - (i2 + 1)) (by omega) hxN hnc hx)) hS
                        refine .inl ⟨_, rfl, ?_⟩
                        obtain ⟨hul, hf2, huf⟩ := rFs_ok hx
                        have ha5 := hf2 (by omega)
                        have hD7 := hD.trans (dpClaims_s (k := kM - (i2 + 1)) (by omega) hxN hnc hx)
                        have hS := hS.toEnd
                        clear hx
                        refine gl_nil ?_
                        refine ga_next ((((hS.blank 0).blank 4).blank 8).pre 10) fun hK => ?_
                        refine ga_two 1 5 (by kernel_rfl) rfl rfl ?_ ?_
                        · skip
                          refine gl_op rfl rfl rfl (op_loadB 4 hT hS rfl rfl rfl rfl rfl rfl) ?_
                          refine gl_nil ?_
                          refine ga_next ((((hS.blank 0).blank 4).blank 8).pre 10) fun hK => ?_
                          refine ga_one 5 (by kernel_rfl) rfl ?_
                          refine gl_lit hT hS el22 rfl rfl rfl rfl rfl rfl rfl rfl rfl fun g119 w119 hS => ?_
                          refine gl_nil ?_
                          refine ga_next ((((hS.blank 0).blank 4).blank 8).pre 10) fun hK => ?_
                          refine ga_one 6 (by kernel_rfl) rfl ?_
                          refine gl_append 8 hT hS el22 (hS.rd (i := 11) rfl) (rfl) rfl rfl rfl rfl rfl rfl rfl rfl (by first | omega | (simp; omega)) (by first | omega | (simp; omega)) fun A120 c120 w120 hS => ?_
                          have hS := hS.erase 11
                          refine gl_nil ?_
                          refine ga_next ((((hS.blank 0).blank 4).blank 8).pre 10) fun hK => ?_
                          refine ga_take 7 rfl rfl rfl rfl (by kernel_rfl) (hpan 121 fun _ _ _ => rfl) hK (fun w1 hS => op_fieldB 3 rfl Tryd.underlying25 rfl el23 rfl rfl) ?_
                          refine ga_one 8 (by kernel_rfl) rfl ?_
                          refine gl_store 4 hS el23.cellsOf.1 el23.cellsOf.2 rfl rfl rfl rfl rfl rfl rfl rfl fun wcode_go_333 hS => ?_
                          refine gl_nil ?_
                          refine ga_next ((((hS.blank 0).blank 4).blank 8).pre 10) fun hK => ?_
                          refine ga_done (by kernel_rfl) ?_
                          refine hK28 _ _ ?_
                          clear hK28; try clear K28
                          refine gc_region ?_
                          first | refine gl_fit hT rfl rfl rfl rfl (by omega) ?_ | refine gl_op rfl rfl rfl (op_pure hT rfl) ?_
                          refine gl_op rfl rfl rfl (op_pure hT rfl) ?_
                          refine gl_nil ?_
                          intro a' ha
                          have hS : St w.heap.size w _ ([.blk gc 54 (cuC A l.length c a5 []), .blk g2 25 zP, .blk g3 34 [.int .i64 0], .blk g4 3 [.int .i64 0], .blk g6 25 [.slice AC n cC, .slice AG i cG, .int .i64 (t9 - 1), .slice A120 (i2 + 1) c120, .int .i64 0, .int .i64 0, .int .i64 0], .row AC cC 62 1 n (C.map fV), .row AG cG 22 1 i (S.map svV), .keep K wk, .row A120 c120 22 1 (i2 + 1) (S2.map svV ++ [svV (A118, m, c118)])] ++ [.keep K2 wk2, .row A118 c118 62 1 m (us.map fV)]) := hS
                          have hP1 := hP.lift (ok' := fun b => ∃ it ∈ [It.keep K2 wk2, .row A118 c118 62 1 m (us.map fV)], it.fp b) fun h => (hS.keepRd (i := 9) rfl h).weaken (keep_mem (x := .keep K2 wk2) (.head _))
                          have hP2 := hP1.snoc (x := (A118, m, c118)) (l := us) (rdE_of (hS.rowRd (i := 10) rfl (keep_mem (.tail _ (.head _)))) hul) hul.symm (by omega) huf
                          refine ⟨i2 + 1, S2 ++ [(A118, m, c118)], M ++ [us], a5, A120, c120, _, _, ha.sub ⟨rfl, rfl, rfl, rfl, rfl, rfl, rfl, rfl, trivial⟩, by omega, by omega, by omega, by rw [List.length_append, hMl]; rfl, hD7, hP2, ?_⟩
                          rw [List.map_append]
                          exact hS.keepRest
                        · skip
                          refine gl_lit hT hS el22 rfl rfl rfl rfl rfl rfl rfl rfl rfl fun g119 w119 hS => ?_
                          refine gl_nil ?_
                          refine ga_next ((((hS.blank 0).blank 4).blank 8).pre 10) fun hK => ?_
                          refine ga_one 1 (by kernel_rfl) rfl ?_
                          refine gl_op rfl rfl rfl (op_loadB 4 hT hS rfl rfl rfl rfl rfl rfl) ?_
                          refine gl_nil ?_
                          refine ga_next ((((hS.blank 0).blank 4).blank 8).pre 10) fun hK => ?_
                          refine ga_one 6 (by kernel_rfl) rfl ?_
                          refine gl_append 8 hT hS el22 (hS.rd (i := 11) rfl) (rfl) rfl rfl rfl rfl rfl rfl rfl rfl (by first | omega | (simp; omega)) (by first | omega | (simp; omega)) fun A120 c120 w120 hS => ?_
                          have hS := hS.erase 11
                          refine gl_nil ?_
                          refine ga_next ((((hS.blank 0).blank 4).blank 8).pre 10) fun hK => ?_
                          refine ga_take 7 rfl rfl rfl rfl (by kernel_rfl) (hpan 121 fun _ _ _ => rfl) hK (fun w1 hS => op_fieldB 3 rfl Tryd.underlying25 rfl el23 rfl rfl) ?_
                          refine ga_one 8 (by kernel_rfl) rfl ?_
                          refine gl_store 4 hS el23.cellsOf.1 el23.cellsOf.2 rfl rfl rfl rfl rfl rfl rfl rfl fun wcode_go_333 hS => ?_
                          refine gl_nil ?_
                          refine ga_next ((((hS.blank 0).blank 4).blank 8).pre 10) fun hK => ?_
                          refine ga_done (by kernel_rfl) ?_
                          refine hK28 _ _ ?_
                          clear hK28; try clear K28
                          refine gc_region ?_
                          first | refine gl_fit hT rfl rfl rfl rfl (by omega) ?_ | refine gl_op rfl rfl rfl (op_pure hT rfl) ?_
                          refine gl_op rfl rfl rfl (op_pure hT rfl) ?_
                          refine gl_nil ?_
                          intro a' ha
                          have hS : St w.heap.size w _ ([.blk gc 54 (cuC A l.length c a5 []), .blk g2 25 zP, .blk g3 34 [.int .i64 0], .blk g4 3 [.int .i64 0], .blk g6 25 [.slice AC n cC, .slice AG i cG, .int .i64 (t9 - 1), .slice A120 (i2 + 1) c120, .int .i64 0, .int .i64 0, .int .i64 0], .row AC cC 62 1 n (C.map fV), .row AG cG 22 1 i (S.map svV), .keep K wk, .row A120 c120 22 1 (i2 + 1) (S2.map svV ++ [svV (A118, m, c118)])] ++ [.keep K2 wk2, .row A118 c118 62 1 m (us.map fV)]) := hS
                          have hP1 := hP.lift (ok' := fun b => ∃ it ∈ [It.keep K2 wk2, .row A118 c118 62 1 m (us.map fV)], it.fp b) fun h => (hS.keepRd (i := 9) rfl h).weaken (keep_mem (x := .keep K2 wk2) (.head _))
                          have hP2 := hP1.snoc (x := (A118, m, c118)) (l := us) (rdE_of (hS.rowRd (i := 10) rfl (keep_mem (.tail _ (.head _)))) hul) hul.symm (by omega) huf
                          refine ⟨i2 + 1, S2 ++ [(A118, m, c118)], M ++ [us], a5, A120, c120, _, _, ha.sub ⟨rfl, rfl, rfl, rfl, rfl, rfl, rfl, rfl, trivial⟩, by omega, by omega, by omega, by rw [List.length_append, hMl]; rfl, hD7, hP2, ?_⟩
                          rw [List.map_append]
                          exact hS.keepRest
                  · try simp only [decide_eq_true_eq, decide_eq_false_iff_not, Bool.not_eq_true', Bool.not_eq_false', Int.not_lt, Int.not_le, Nat.not_lt, Nat.not_le, Bool.true_eq, Bool.false_eq, reduceCtorEq] at c101
                    refine gl_pass rfl rfl rfl rfl rfl rfl ?_
                    refine gl_pass rfl rfl rfl rfl rfl rfl ?_
                    refine gl_pass rfl rfl rfl rfl rfl rfl ?_
                    refine gl_pass rfl rfl rfl rfl rfl rfl ?_
                    refine gl_pass rfl rfl rfl rfl rfl rfl ?_
                    refine gl_pass rfl rfl rfl rfl rfl rfl ?_
                    refine gl_pass rfl rfl rfl rfl rfl rfl ?_
                    refine gl_un rfl rfl rfl rfl ?_
                    refine gl_op rfl rfl rfl (op_pure hT rfl) ?_
                    refine gl_op rfl rfl rfl (op_pure hT rfl) ?_
                    refine gl_nil ?_
                    refine hK33 _ _ ?_
                    clear hK33; try clear K33
                    refine gc_cond_f rfl ?_
                    refine gc_skip ?_
                    refine hK32 _ _ ?_
                    clear hK32; try clear K32
                    refine gc_anyS (((hS.blank 0).blank 4).blank 8) (by kernel_rfl) rfl fun nq31 hK => ?_
                    have hS := hS.dr nq31
                    have hnc : ¬ ((m : Int) < 2 ∨ 257 < (m : Int) ∨ (0 < M.length ∧ (m : Int) ≠ (M.getD 0 []).length)) := by first | omega | (rintro (h | h | ⟨h, h2⟩) <;> first | omega | (exact h2 (by omega)))
                    have hm : m ≤ 257 := by omega
                    refine ga_take 0 rfl rfl rfl rfl (by kernel_rfl) (hpan 114 fun _ _ _ => rfl) hK (fun w1 hS => op_fieldB 3 rfl Tryd.underlying25 rfl el23 rfl rfl) ?_
                    refine ga_take 2 rfl rfl rfl rfl (by kernel_rfl) (hpan 116 fun _ _ _ => rfl) hK (fun w1 hS => op_pure hT rfl) ?_
                    refine ga_take 3 rfl rfl rfl rfl (by kernel_rfl) (hpan 117 fun _ _ _ => rfl) hK (fun w1 hS => op_pure hT rfl) ?_
                    refine ga_two 1 4 (by kernel_rfl) rfl rfl ?_ ?_
                    · skip
                      refine gl_op rfl rfl rfl (op_loadB 4 hT hS rfl rfl rfl rfl rfl rfl) ?_
                      refine gl_nil ?_
                      refine ga_next ((((hS.blank 0).blank 4).blank 8).pre 10) fun hK => ?_
                      refine ga_one 4 (by kernel_rfl) rfl ?_
                      refine gl_callP rfl rfl rfl rfl Tryd.func59 rfl rfl rfl (cFloats_calls gc _ A l.length c l a8 [] _ _ m hS hr rfl hlen (by omega) (by omega)) ?_
                      rintro _ w118 (⟨x, y, a9, hx, rfl, hS⟩ | ⟨us, a5, A118, c118, hx, rfl, hS⟩)
                      · refine .inr ⟨_, rfl, ?_⟩
                        try simp only [x_then_panic, x_block_panic]
                        exact gk_dp ⟨rfl, rfl, rfl, trivial⟩ (hD.trans (dpClaims_f (k := kM - (i2 + 1)) (by omega) hxN hnc hx)) hS
                      refine .inl ⟨_, rfl, ?_⟩
                      obtain ⟨hul, hf2, huf⟩ := rFs_ok hx
                      have ha5 := hf2 (by omega)
                      have hD7 := hD.trans (dpClaims_s (k := kM - (i2 + 1)) (by omega) hxN hnc hx)
                      have hS := hS.toEnd
                      clear hx
                      refine gl_nil ?_
                      refine ga_next ((((hS.blank 0).blank 4).blank 8).pre 10) fun hK => ?_
                      refine ga_one 5 (by kernel_rfl) rfl ?_
                      refine gl_lit hT hS el22 rfl rfl rfl rfl rfl rfl rfl rfl rfl fun g119 w119 hS => ?_
                      refine gl_nil ?_
                      refine ga_next ((((hS.blank 0).blank 4).blank 8).pre 10) fun hK => ?_
                      refine ga_one 6 (by kernel_rfl) rfl ?_
                      refine gl_append 8 hT hS el22 (hS.rd (i := 11) rfl) (rfl) rfl rfl rfl rfl rfl rfl rfl rfl (by first | omega | (simp; omega)) (by first | omega | (simp; omega)) fun A120 c120 w120 hS => ?_
                      have hS := hS.erase 11
                      refine gl_nil ?_
                      refine ga_next ((((hS.blank 0).blank 4).blank 8).pre 10) fun hK => ?_
                      refine ga_take 7 rfl rfl rfl rfl (by kernel_rfl) (hpan 121 fun _ _ _ => rfl) hK (fun w1 hS => op_fieldB 3 rfl Tryd.underlying25 rfl el23 rfl rfl) ?_
                      refine ga_one 8 (by kernel_rfl) rfl ?_
                      refine gl_store 4 hS el23.cellsOf.1 el23.cellsOf.2 rfl rfl rfl rfl rfl rfl rfl rfl fun wcode_go_333 hS => ?_
                      refine gl_nil ?_
                      refine ga_next ((((hS.blank 0).blank 4).blank 8).pre 10) fun hK => ?_
                      refine ga_done (by kernel_rfl) ?_
                      refine hK28 _ _ ?_
                      clear hK28; try clear K28
                      refine gc_region ?_
                      first | refine gl_fit hT rfl rfl rfl rfl (by omega) ?_ | refine gl_op rfl rfl rfl (op_pure hT rfl) ?_
                      refine gl_op rfl rfl rfl (op_pure hT rfl) ?_
                      refine gl_nil ?_
                      intro a' ha
                      have hS : St w.heap.size w _ ([.blk gc 54 (cuC A l.length c a5 []), .blk g2 25 zP, .blk g3 34 [.int .i64 0], .blk g4 3 [.int .i64 0], .blk g6 25 [.slice AC n cC, .slice AG i cG, .int .i64 (t9 - 1), .slice A120 (i2 + 1) c120, .int .i64 0, .int .i64 0, .int .i64 0], .row AC cC 62 1 n (C.map fV), .row AG cG 22 1 i (S.map svV), .keep K wk, .row A120 c120 22 1 (i2 + 1) (S2.map svV ++ [svV (A118, m, c118)])] ++ [.keep K2 wk2, .row A118 c118 62 1 m (us.map fV)]) := hS
                      have hP1 := hP.lift (ok' := fun b => ∃ it ∈ [It.keep K2 wk2, .row A118 c118 62 1 m (us.map fV)], it.fp b) fun h => (hS.keepRd (i := 9) rfl h).weaken (keep_mem (x := .keep K2 wk2) (.head _))
                      have hP2 := hP1.snoc (x := (A118, m, c118)) (l := us) (rdE_of (hS.rowRd (i := 10) rfl (keep_mem (.tail _ (.head _)))) hul) hul.symm (by omega) huf
                      refine ⟨i2 + 1, S2 ++ [(A118, m, c118)], M ++ [us], a5, A120, c120, _, _, ha.sub ⟨rfl, rfl, rfl, rfl, rfl, rfl, rfl, rfl, trivial⟩, by omega, by omega, by omega, by rw [List.length_append, hMl]; rfl, hD7, hP2, ?_⟩
                      rw [List.map_append]
                      exact hS.keepRest
                    · skip
                      refine gl_callP rfl rfl rfl rfl Tryd.func59 rfl rfl rfl (cFloats_calls gc _ A l.length c l a8 [] _ _ m hS hr rfl hlen (by omega) (by omega)) ?_
                      rintro _ w118 (⟨x, y, a9, hx, rfl, hS⟩ | ⟨us, a5, A118, c118, hx, rfl, hS⟩)
                      · refine .inr ⟨_, rfl, ?_⟩
                        try simp only [x_then_panic, x_block_panic]
                        exact gk_dp ⟨rfl, rfl, rfl, trivial⟩ (hD.trans (dpClaims_f (k := kM - (i2 + 1)) (by omega) hxN hnc hx)) hS
                      refine .inl ⟨_, rfl, ?_⟩
                      obtain ⟨hul, hf2, huf⟩ := rFs_ok hx
                      have ha5 := hf2 (by omega)
                      have hD7 := hD.trans (dpClaims_s (k := kM - (i2 + 1)) (by omega) hxN hnc hx)
                      have hS := hS.toEnd
                      clear hx
                      refine gl_nil ?_
                      refine ga_next ((((hS.blank 0).blank 4).blank 8).pre 10) fun hK => ?_
                      refine ga_two 1 5 (by kernel_rfl) rfl rfl ?_ ?_
                      · skip
                        refine gl_op rfl rfl rfl (op_loadB 4 hT hS rfl rfl rfl rfl rfl rfl) ?_
                        refine gl_nil ?_
                        refine ga_next ((((hS.blank 0).blank 4).blank 8).pre 10) fun hK => ?_
                        refine ga_one 5 (by kernel_rfl) rfl ?_
                        refine gl_lit hT hS el22 rfl rfl rfl rfl rfl rfl rfl rfl rfl fun g119 w119 hS => ?_
                        refine gl_nil ?_
                        refine ga_next ((((hS.blank 0).blank 4).blank 8).pre 10) fun hK => ?_
                        refine ga_one 6 (by kernel_rfl) rfl ?_
                        refine gl_append 8 hT hS el22 (hS.rd (i := 11) rfl) (rfl) rfl rfl rfl rfl rfl rfl rfl rfl (by first | omega | (simp; omega)) (by first | omega | (simp; omega)) fun A120 c120 w120 hS => ?_
                        have hS := hS.erase 11
                        refine gl_nil ?_
                        refine ga_next ((((hS.blank 0).blank 4).blank 8).pre 10) fun hK => ?_
                        refine ga_take 7 rfl rfl rfl rfl (by kernel_rfl) (hpan 121 fun _ _ _ => rfl) hK (fun w1 hS => op_fieldB 3 rfl Tryd.underlying25 rfl el23 rfl rfl) ?_
                        refine ga_one 8 (by kernel_rfl) rfl ?_
                        refine gl_store 4 hS el23.cellsOf.1 el23.cellsOf.2 rfl rfl rfl rfl rfl rfl rfl rfl fun wcode_go_333 hS => ?_
                        refine gl_nil ?_
                        refine ga_next ((((hS.blank 0).blank 4).blank 8).pre 10) fun hK => ?_
                        refine ga_done (by kernel_rfl) ?_
                        refine hK28 _ _ ?_
                        clear hK28; try clear K28
                        refine gc_region ?_
                        first | refine gl_fit hT rfl rfl rfl rfl (by omega) ?_ | refine gl_op rfl rfl rfl (op_pure hT rfl) ?_
                        refine gl_op rfl rfl rfl (op_pure hT rfl) ?_
                        refine gl_nil ?_
                        intro a' ha
                        have hS : St w.heap.size w _ ([.blk gc 54 (cuC A l.length c a5 []), .blk g2 25 zP, .blk g3 34 [.int .i64 0], .blk g4 3 [.int .i64 0], .blk g6 25 [.slice AC n cC, .slice AG i cG, .int .i64 (t9 - 1), .slice A120 (i2 + 1) c120, .int .i64 0, .int .i64 0, .int .i64 0], .row AC cC 62 1 n (C.map fV), .row AG cG 22 1 i (S.map svV), .keep K wk, .row A120 c120 22 1 (i2 + 1) (S2.map svV ++ [svV (A118, m, c118)])] ++ [.keep K2 wk2, .row A118 c118 62 1 m (us.map fV)]) := hS
                        have hP1 := hP.lift (ok' := fun b => ∃ it ∈ [It.keep K2 wk2, .row A118 c118 62 1 m (us.map fV)], it.fp b) fun h => (hS.keepRd (i := 9) rfl h).weaken (keep_mem (x := .keep K2 wk2) (.head _))
                        have hP2 := hP1.snoc (x := (A118, m, c118)) (l := us) (rdE_of (hS.rowRd (i := 10) rfl (keep_mem (.tail _ (.head _)))) hul) hul.symm (by omega) huf
                        refine ⟨i2 + 1, S2 ++ [(A118, m, c118)], M ++ [us], a5, A120, c120, _, _, ha.sub ⟨rfl, rfl, rfl, rfl, rfl, rfl, rfl, rfl, trivial⟩, by omega, by omega, by omega, by rw [List.length_append, hMl]; rfl, hD7, hP2, ?_⟩
                        rw [List.map_append]
                        exact hS.keepRest
                      · skip
                        refine gl_lit hT hS el22 rfl rfl rfl rfl rfl rfl rfl rfl rfl fun g119 w119 hS => ?_
                        refine gl_nil ?_
                        refine ga_next ((((hS.blank 0).blank 4).blank 8).pre 10) fun hK => ?_
                        refine ga_one 1 (by kernel_rfl) rfl ?_
                        refine gl_op rfl rfl rfl (op_loadB 4 hT hS rfl rfl rfl rfl rfl rfl) ?_
                        refine gl_nil ?_
                        refine ga_next ((((hS.blank 0).blank 4).blank 8).pre 10) fun hK => ?_
                        refine ga_one 6 (by kernel_rfl) rfl ?_
                        refine gl_append 8 hT hS el22 (hS.rd (i := 11) rfl) (rfl) rfl rfl rfl rfl rfl rfl rfl rfl (by first | omega | (simp; omega)) (by first | omega | (simp; omega)) fun A120 c120 w120 hS => ?_
                        have hS := hS.erase 11
                        refine gl_nil ?_
                        refine ga_next ((((hS.blank 0).blank 4).blank 8).pre 10) fun hK => ?_
                        refine ga_take 7 rfl rfl rfl rfl (by kernel_rfl) (hpan 121 fun _ _ _ => rfl) hK (fun w1 hS => op_fieldB 3 rfl Tryd.underlying25 rfl el23 rfl rfl) ?_
                        refine ga_one 8 (by kernel_rfl) rfl ?_
                        refine gl_store 4 hS el23.cellsOf.1 el23.cellsOf.2 rfl rfl rfl rfl rfl rfl rfl rfl fun wcode_go_333 hS => ?_
                        refine gl_nil ?_
                        refine ga_next ((((hS.blank 0).blank 4).blank 8).pre 10) fun hK => ?_
                        refine ga_done (by kernel_rfl) ?_
                        refine hK28 _ _ ?_
                        clear hK28; try clear K28
                        refine gc_region ?_
                        first | refine gl_fit hT rfl rfl rfl rfl (by omega) ?_ | refine gl_op rfl rfl rfl (op_pure hT rfl) ?_
                        refine gl_op rfl rfl rfl (op_pure hT rfl) ?_
                        refine gl_nil ?_
                        intro a' ha
                        have hS : St w.heap.size w _ ([.blk gc 54 (cuC A l.length c a5 []), .blk g2 25 zP, .blk g3 34 [.int .i64 0], .blk g4 3 [.int .i64 0], .blk g6 25 [.slice AC n cC, .slice AG i cG, .int .i64 (t9 - 1), .slice A120 (i2 + 1) c120, .int .i64 0, .int .i64 0, .int .i64 0], .row AC cC 62 1 n (C.map fV), .row AG cG 22 1 i (S.map svV), .keep K wk, .row A120 c120 22 1 (i2 + 1) (S2.map svV ++ [svV (A118, m, c118)])] ++ [.keep K2 wk2, .row A118 c118 62 1 m (us.map fV)]) := hS
                        have hP1 := hP.lift (ok' := fun b => ∃ it ∈ [It.keep K2 wk2, .row A118 c118 62 1 m (us.map fV)], it.fp b) fun h => (hS.keepRd (i := 9) rfl h).weaken (keep_mem (x := .keep K2 wk2) (.head _))
                        have hP2 := hP1.snoc (x := (A118, m, c118)) (l := us) (rdE_of (hS.rowRd (i := 10) rfl (keep_mem (.tail _ (.head _)))) hul) hul.symm (by omega) huf
                        refine ⟨i2 + 1, S2 ++ [(A118, m, c118)], M ++ [us], a5, A120, c120, _, _, ha.sub ⟨rfl, rfl, rfl, rfl, rfl, rfl, rfl, rfl, trivial⟩, by omega, by omega, by omega, by rw [List.length_append, hMl]; rfl, hD7, hP2, ?_⟩
                        rw [List.map_append]
                        exact hS.keepRest
            · try simp only [decide_eq_true_eq, decide_eq_false_iff_not, Bool.not_eq_true', Bool.not_eq_false', Int.not_lt, Int.not_le, Nat.not_lt, Nat.not_le, Bool.true_eq, Bool.false_eq, reduceCtorEq] at c84
              have hik2 : i2 = kM := by omega
              subst hik2
              rw [Nat.sub_self] at hD
              have hD : decPropV l = dpNums l ⟨C, G, t9 - 1, M, 0, 0, 0⟩ a b := hD
              refine gc_exit ?_
              refine hK24 _ _ ?_
              clear hK24; try clear K24
              refine gc_seq fun K34 hK34 => ?_
              refine gc_region ?_
              refine gl_op rfl rfl rfl (op_pure hT rfl) ?_
              refine gl_callP rfl rfl rfl rfl Tryd.func51 rfl rfl rfl (cUint_calls gc _ A l.length c l b [] _ _ hS hr rfl hlen) ?_
              rintro _ w124 (⟨x, y, hx, rfl, hS⟩ | ⟨pk, a10, hxk, rfl, hS⟩)
              · refine .inr ⟨_, rfl, ?_⟩
                try simp only [x_then_panic, x_block_panic]
                exact gk_dp ⟨rfl, rfl, rfl, trivial⟩ (hD.trans (dpNums_1 hx)) hS
              refine .inl ⟨_, rfl, ?_⟩
              have hu6 := rU_ok hxk
              refine gl_op rfl rfl rfl (op_pure hT rfl) ?_
              refine gl_callP rfl rfl rfl rfl Tryd.func51 rfl rfl rfl (cUint_calls gc _ A l.length c l a10 [] _ _ hS hr rfl hlen) ?_
              rintro _ w126 (⟨x, y, hx, rfl, hS⟩ | ⟨pd, a11, hxd, rfl, hS⟩)
              · refine .inr ⟨_, rfl, ?_⟩
                try simp only [x_then_panic, x_block_panic]
                exact gk_dp ⟨rfl, rfl, rfl, trivial⟩ (hD.trans (dpNums_2 hxk hx)) hS
              refine .inl ⟨_, rfl, ?_⟩
              have hu7 := rU_ok hxd
              refine gl_op rfl rfl rfl (op_pure hT rfl) ?_
              refine gl_callP rfl rfl rfl rfl Tryd.func51 rfl rfl rfl (cUint_calls gc _ A l.length c l a11 [] _ _ hS hr rfl hlen) ?_
              rintro _ w128 (⟨x, y, hx, rfl, hS⟩ | ⟨ps, a12, hxs, rfl, hS⟩)
              · refine .inr ⟨_, rfl, ?_⟩
                try simp only [x_then_panic, x_block_panic]
                exact gk_dp ⟨rfl, rfl, rfl, trivial⟩ (hD.trans (dpNums_3 hxk hxd hx)) hS
              refine .inl ⟨_, rfl, ?_⟩
              have hu8 := rU_ok hxs
              have hD : decPropV l = dpTail l (⟨C, G, t9 - 1, M, pk, pd, ps⟩ : Px) a a12 := hD.trans (dpNums_0 hxk hxd hxs)
              refine gl_op rfl rfl rfl (op_fieldB 4 rfl Tryd.underlying25 rfl el3 rfl rfl) ?_
              refine gl_store 4 hS el3.cellsOf.1 el3.cellsOf.2 rfl rfl rfl rfl rfl rfl rfl rfl fun wcode_go_335 hS => ?_
              refine gl_op rfl rfl rfl (op_fieldB 5 rfl Tryd.underlying25 rfl el3 rfl rfl) ?_
              refine gl_store 4 hS el3.cellsOf.1 el3.cellsOf.2 rfl rfl rfl rfl rfl rfl rfl rfl fun wcode_go_335 hS => ?_
              refine gl_op rfl rfl rfl (op_fieldB 6 rfl Tryd.underlying25 rfl el3 rfl rfl) ?_
              refine gl_store 4 hS el3.cellsOf.1 el3.cellsOf.2 rfl rfl rfl rfl rfl rfl rfl rfl fun wcode_go_335 hS => ?_
              refine gl_nil ?_
              refine hK34 _ _ ?_
              clear hK34; try clear K34
              refine gc_seq fun K35 hK35 => ?_
              refine gc_region ?_
              refine gl_op rfl rfl rfl (op_loadG 4 Tryd.underlying25 rfl el25 hS rfl rfl rfl rfl rfl) ?_
              have hPM : ∀ {ok' : Nat → Prop} {w' : World} {x0 x1 x2 x3 x4 : It}, St w.heap.size w w' [x0, x1, x2, x3, x4, .row AC cC 62 1 n (C.map fV), .row AG cG 22 1 i (S.map svV), .keep K wk, .row AM cM 22 1 i2 (S2.map svV), .keep K2 wk2] → (∀ x ∈ [It.row AC cC 62 1 n (C.map fV), It.row AG cG 22 1 i (S.map svV), .keep K wk, .row AM cM 22 1 i2 (S2.map svV), .keep K2 wk2], ∀ b, It.fp x b → ok' b) → PrM w' ok' (AC, n, cC) (AG, i, cG) (AM, i2, cM) S S2 (⟨C, G, t9 - 1, M, pk, pd, ps⟩ : Px) := by
                intro ok' w' x0 x1 x2 x3 x4 hS hok
                exact ⟨rdE_of (hS.rowRd (i := 5) rfl (hok _ (.head _))) hCl, hCl.symm, by show C.length ≤ _; omega, hCf, Fcs.lsM (i := 6) (j := 7) hS rfl rfl (by omega) hPG (hok _ (.tail _ (.head _))) (hok _ (.tail _ (.tail _ (.head _)))), hGl.symm, by show G.length ≤ _; omega,
                  Fcs.lsM (i := 8) (j := 9) hS rfl rfl (by omega) hP (hok _ (.tail _ (.tail _ (.tail _ (.head _))))) (hok _ (.tail _ (.tail _ (.tail _ (.tail _ (.head _)))))), hMl.symm, by show M.length ≤ _; omega, by unfold i64; show _ ≤ t9 - 1 ∧ t9 - 1 ≤ _; omega, by unfold i64; show _ ≤ pk ∧ pk ≤ _; omega, by unfold i64; show _ ≤ pd ∧ pd ≤ _; omega, by unfold i64; show _ ≤ ps ∧ ps ≤ _; omega⟩
              refine gl_callf rfl rfl rfl rfl Tryd.func8 rfl rfl rfl (checkForm_calls (AC, n, cC) (AG, i, cG) (AM, i2, cM) S S2 (⟨C, G, t9 - 1, M, pk, pd, ps⟩ : Px) _ (ok := fun _ => True) (hPM hS fun _ _ _ _ => trivial)) ?_
              rintro _ w134 ⟨rfl, hb134⟩
              refine ⟨_, rfl, ?_⟩
              have hS := hS.grown hb134
              refine gl_op rfl rfl rfl (op_pure hT rfl) ?_
              refine gl_op rfl rfl rfl (op_pure hT rfl) ?_
              refine gl_op rfl rfl rfl (op_pure hT rfl) ?_
              refine gl_op rfl rfl rfl (op_pure hT rfl) ?_
              refine gl_op rfl rfl rfl (op_pure hT rfl) ?_
              refine gl_nil ?_
              refine hK35 _ _ ?_
              clear hK35; try clear K35
              refine gc_seq fun K36 hK36 => ?_
              refine gc_region ?_
              refine gl_op rfl rfl rfl (op_pure hT rfl) ?_
              refine gl_op rfl rfl rfl (op_pure hT rfl) ?_
              refine gl_op rfl rfl rfl (op_pure hT rfl) ?_
              refine gl_callP rfl rfl rfl rfl Tryd.func53 rfl rfl rfl (check_calls8 _ (formV (⟨C, G, t9 - 1, M, pk, pd, ps⟩ : Px)).1 a _) ?_
              rintro _ w140 (⟨hx, rfl, hb140⟩ | ⟨hx, rfl, hb140⟩)
              · refine .inr ⟨_, rfl, ?_⟩
                try simp only [x_then_panic, x_block_panic]
                exact gk_dp ⟨rfl, rfl, rfl, trivial⟩ (hD.trans (dpTail_b hx)) (hS.eqv hb140)
              refine .inl ⟨_, rfl, ?_⟩
              have hS := hS.eqv hb140
              have hfz : ¬ (formV (⟨C, G, t9 - 1, M, pk, pd, ps⟩ : Px)).1 ≠ 0 := by omega
              refine gl_nil ?_
              refine hK36 _ _ ?_
              clear hK36; try clear K36
              refine gc_seq fun K37 hK37 => ?_
              refine gc_region ?_
              refine gl_op rfl rfl rfl (op_pure hT rfl) ?_
              refine gl_callP rfl rfl rfl rfl Tryd.func57 rfl rfl rfl (cTail_calls gc _ A l.length c l a12 [] _ _ hS hr rfl hc hlen (by omega)) ?_
              rintro _ w142 (⟨x, y, hx, rfl, hS⟩ | ⟨hx, rfl, hS⟩)
              · refine .inr ⟨_, rfl, ?_⟩
                try simp only [x_then_panic, x_block_panic]
                exact gk_dp ⟨rfl, rfl, rfl, trivial⟩ (hD.trans (dpTail_t hfz hx)) hS
              refine .inl ⟨_, rfl, ?_⟩
              have hD := hD.trans (dpTail_0 hfz hx)
              refine gl_nil ?_
              refine hK37 _ _ ?_
              clear hK37; try clear K37
              refine gc_seq fun K38 hK38 => ?_
              refine gc_region ?_
              refine gl_op rfl rfl rfl (op_loadG 4 Tryd.underlying25 rfl el25 hS rfl rfl rfl rfl rfl) ?_
              refine gl_storeM 1 hS el25 rfl rfl rfl rfl rfl rfl rfl rfl rfl fun wcode_go_339 hS => ?_
              refine gl_store 2 hS el34.cellsOf.1 el34.cellsOf.2 rfl rfl rfl rfl rfl rfl rfl rfl fun wcode_go_339 hS => ?_
              refine gl_store 3 hS el3.cellsOf.1 el3.cellsOf.2 rfl rfl rfl rfl rfl rfl rfl rfl fun wcode_go_339 hS => ?_
              refine gl_nil ?_
              refine hK38 _ _ ?_
              clear hK38; try clear K38
              refine gc_ret ?_
              try simp only [x_then_ret, x_block_ret]
              have hS : St w.heap.size w _ (.blk gc 54 (cuC A l.length c a12 []) :: dpL g2 g3 g4 (propC (AC, n, cC) (AG, i, cG) (AM, i2, cM) (⟨C, G, t9 - 1, M, pk, pd, ps⟩ : Px)) 0 0 ++ [.blk g6 25 (propC (AC, n, cC) (AG, i, cG) (AM, i2, cM) (⟨C, G, t9 - 1, M, pk, pd, ps⟩ : Px)), .row AC cC 62 1 n (C.map fV), .row AG cG 22 1 i (S.map svV), .keep K wk, .row AM cM 22 1 i2 (S2.map svV), .keep K2 wk2]) := hS
              refine gk_dpret rfl ⟨rfl, rfl, rfl, trivial⟩ hS ?_
              refine .inr ⟨(⟨C, G, t9 - 1, M, pk, pd, ps⟩ : Px), (AC, n, cC), (AG, i, cG), (AM, i2, cM), S, S2, _, hD, rfl, hS.keepAll, hPM hS fun x hx => keep_mem ?_⟩
              exact .tail _ (.tail _ (.tail _ (.tail _ (.tail _ hx))))
end Go.Proofs.YtnomlloaahoceaaDoor

