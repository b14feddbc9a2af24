/- Contracts of functions that CodePropBytes reaches, and words to say them. No condition. -/
import Derived.Test.YtnomlloaahoceaaDoorZ21
import Derived.Test.YtnomlloaahoceaaDoorZ18
/- Contracts of package ambitref8: a question read from bytes. No condition. -/
namespace Go.Proofs.YtnomlloaahoceaaDoor
open Go.RowKit
set_option linter.unusedVariables false
set_option linter.unusedSimpArgs false
theorem Bcs.lsU {B : Nat} {w0 w wk : World} {L : List It} {K ok : Nat → Prop} {A : Option Addr} {c n : Nat} {S : List Sv} {ls : List (List Nat)} {i j : Nat} (hS : St B w0 w L) (hi : L[i]? = some (.row A c 26 1 n (S.map svV))) (hj : L[j]? = some (.keep K wk)) (hn : S.length = n)
    (h : Bcs wk K S ls) (h1 : ∀ b, It.fp (.row A c 26 1 n (S.map svV)) b → ok b) (h2 : ∀ b, It.fp (.keep K wk) b → ok b) : LsU w ok A S ls :=
  ⟨rdE_of (hS.rowRd hi h1) hn, h.1, (h.lift fun hq => (hS.keepRd hj hq).weaken h2).2⟩
def drR (l : List UInt8) (w : World) (e : Ending) (w' : World) : Prop := (∃ x y, decPropV l = .error (x, y) ∧ e = .returned (.tuple #[.agg ⟨zP⟩, .int .i64 x, .int .i64 y]) ∧ Below w.heap.size w w') ∨
      (∃ p C G M SG SM K, decPropV l = .ok p ∧ e = .returned (.tuple #[.agg ⟨propC C G M p⟩, .int .i64 0, .int .i64 0]) ∧ St w.heap.size w w' [.keep K w'] ∧ PrU w' K C G M SG SM p)
set_option maxHeartbeats 4000000 in
set_option maxRecDepth 100000 in
theorem rDecodeProp_calls (A : Option Addr) (n0 c : Nat) (l : List UInt8) (w : World) {ok : Nat → Prop} (h1 : RdE w ok uB A l) (hn : n0 = l.length) (hc : n0 ≤ c) (hb : l.length ≤ 4611686018427387904) :
    Calls Tryd.prog 30 ⟨[.slice A n0 c]⟩ w (drR l w) := by
  subst hn
  have hr : Rdb w.heap.size w ok A l := fun hS => h1.old hS
  refine gc_enter (N := 156) Tryd.func30 rfl rfl rfl [(0, _)] rfl ?_
  have hS := St.start w
  refine gc_seq fun K1 hK1 => ?_
  refine gc_region ?_
  refine gl_alloc el29 hS rfl rfl rfl rfl fun g2 w2 hS => ?_
  refine gl_op rfl rfl rfl (op_pure hT rfl) ?_
  refine gl_op rfl rfl rfl (op_pure hT rfl) ?_
  refine gl_nil ?_
  refine hK1 _ _ ?_
  clear hK1; try clear K1
  refine gc_cut (fun a w' => ∃ g2 gc, Fr 156 a [(2, .pointer (some ⟨g2, 0, none⟩)), (5, .pointer (some ⟨gc, 0, none⟩))] ∧ St w.heap.size w w' [.blk gc 116 (rsC A l.length c (⟨0, 0, 0⟩)), .blk g2 29 zP]) ?_ ?_
  · skip
    refine gc_region ?_
    refine gl_op rfl rfl rfl (op_pure hT rfl) ?_
    refine gl_op rfl rfl rfl (op_buildG rfl plan116 rfl rfl) ?_
    refine gl_box hS rfl rfl rfl rfl rfl fun g19 w19 hS => ?_
    refine gl_op rfl rfl rfl (op_pure hT rfl) ?_
    refine gl_nil ?_
    intro a ha
    refine ⟨g2, g19, ha.sub ⟨rfl, rfl, trivial⟩, ?_⟩
    exact hS.permute (List.perm_append_comm (l₁ := [_]) (l₂ := [_]))
  rintro a w1 ⟨g2, gc, hF, hS⟩
  refine gc_of hF ?_
  clear hF
  refine gc_seq fun K2 hK2 => ?_
  refine gc_region ?_
  refine gl_op rfl rfl rfl (op_pure hT rfl) ?_
  refine gl_callf rfl rfl rfl rfl Tryd.func60 rfl rfl rfl (rdHead_calls gc _ A c l _ _ hS hr hc hb) ?_
  rintro _ w21 ⟨rfl, hS⟩
  refine ⟨_, rfl, ?_⟩
  have hL := lvH l
  have hHa : 0 ≤ (rsH [65, 77, 66, 80] l).a := by unfold rsH; split <;> first | exact Int.le_refl 0 | exact (show (0 : Int) ≤ 5 by decide)
  have hH5 := rsH_live l
  generalize rsH [65, 77, 66, 80] l = s0 at hS hL hHa hH5
  refine gl_nil ?_
  refine hK2 _ _ ?_
  clear hK2; try clear K2
  refine gc_seq fun K3 hK3 => ?_
  refine gc_region ?_
  refine gl_op rfl rfl rfl (op_buildG rfl plan29 rfl rfl) ?_
  refine gl_alloc el29 hS rfl rfl rfl rfl fun g6 w6 hS => ?_
  refine gl_storeM 2 hS el29 rfl rfl rfl rfl rfl rfl rfl rfl rfl fun wambitref8_go_341 hS => ?_
  refine gl_nil ?_
  refine hK3 _ _ ?_
  clear hK3; try clear K3
  refine gc_seq fun K4 hK4 => ?_
  refine gc_region ?_
  refine gl_op rfl rfl rfl (op_pure hT rfl) ?_
  refine gl_callf rfl rfl rfl rfl Tryd.func61 rfl rfl rfl (rdBounded_calls gc _ A c l s0 1 256 _ _ hS hr hb) ?_
  rintro _ w24 ⟨rfl, hS⟩
  refine ⟨_, rfl, ?_⟩
  have hB24 := rsB_ok l 1 256 s0
  have hL := lvB (lo := 1) (hi := 256) (f := fun n a => dpN2 l n a) (c := fun n => n = 0 ∨ 256 < n) (fun v hv => by omega) (dpN_lv hL (fun h => (hH5 h).1))
  generalize hq24 : rsB l 1 256 s0 = q at hS hL hB24 ⊢
  obtain ⟨n, s1⟩ := q
  simp only at hS hL hB24 ⊢
  clear hq24
  refine gl_op rfl rfl rfl (op_pure hT rfl) ?_
  refine gl_nil ?_
  refine hK4 _ _ ?_
  clear hK4; try clear K4
  refine gc_seq fun K5 hK5 => ?_
  refine gc_region ?_
  refine gl_op rfl rfl rfl (op_pure hT rfl) ?_
  refine gl_op rfl rfl rfl (op_pure hT rfl) ?_
  refine gl_callf rfl rfl rfl rfl Tryd.func62 rfl rfl rfl (rdFloats_calls gc _ A c l s1 n _ _ hS hr hb (by omega) (fun h => by have := hB24.2.2.1 h; omega) (by omega)) ?_
  rintro _ w27 ⟨AC, cC, rfl, hS⟩
  refine ⟨_, rfl, ?_⟩
  have hS := hS.toEnd
  have hF27 := rsFs_ok l n.toNat s1
  have hM27 := rsFs_live l n.toNat s1 (fun h => by have := hB24.2.2.1 h; omega)
  have hD27 : s1.e ≠ 0 → (rsFs l n.toNat s1).1 = [] := fun h => by rw [rsFs_dead h]
  have hL := lvF (f := fun C b => dpG l ⟨C, [], 0, [], 0, 0, 0⟩ b) hL
  generalize hq27 : rsFs l n.toNat s1 = q at hS hL hF27 hM27 hD27 ⊢
  obtain ⟨C, s2⟩ := q
  simp only at hS hL hF27 hM27 hD27 ⊢
  clear hq27
  refine gl_op rfl rfl rfl (op_fieldB 0 rfl Tryd.underlying29 rfl el26 rfl rfl) ?_
  refine gl_store 2 hS el26.cellsOf.1 el26.cellsOf.2 rfl rfl rfl rfl rfl rfl rfl rfl fun wambitref8_go_343 hS => ?_
  refine gl_nil ?_
  refine hK5 _ _ ?_
  clear hK5; try clear K5
  refine gc_seq fun K6 hK6 => ?_
  refine gc_region ?_
  refine gl_op rfl rfl rfl (op_pure hT rfl) ?_
  refine gl_callf rfl rfl rfl rfl Tryd.func61 rfl rfl rfl (rdBounded_calls gc _ A c l s2 0 256 _ _ hS hr hb) ?_
  rintro _ w30 ⟨rfl, hS⟩
  refine ⟨_, rfl, ?_⟩
  have hB30 := rsB_ok l 0 256 s2
  have hL := lvB (lo := 0) (hi := 256) (f := fun n a => dpRows l ⟨C, [], 0, [], 0, 0, 0⟩ n.toNat [] a) (c := fun n => 256 < n) (fun v hv => by omega) hL
  generalize hq30 : rsB l 0 256 s2 = q at hS hL hB30 ⊢
  obtain ⟨k, s3⟩ := q
  simp only at hS hL hB30 ⊢
  clear hq30
  refine gl_op rfl rfl rfl (op_pure hT rfl) ?_
  refine gl_nil ?_
  refine hK6 _ _ ?_
  clear hK6; try clear K6
  refine gc_cut (fun a' w' => ∃ (i : Nat) (S : List Sv) (G : List (List Nat)) (s : RS) (AG : Option Addr) (cG : Nat) (K : Nat → Prop) (wk : World), Fr 156 a' [(2, .pointer (some ⟨g2, 0, none⟩)), (5, .pointer (some ⟨gc, 0, none⟩)), (6, .pointer (some ⟨g6, 0, none⟩))] ∧ 0 ≤ s.a ∧
  (s.e = 0 → C.length ≤ 256 ∧ 0 ≤ s.a ∧ s.a ≤ l.length ∧ l.length ≤ 1048576) ∧ G.length = i ∧ i ≤ 257 ∧ Lv l s (dpT l ⟨C, G, 0, [], 0, 0, 0⟩ s.a) ∧ Bcs wk K S G ∧ St w.heap.size w w' [.blk gc 116 (rsC A l.length c (s)), .blk g2 29 zP, .blk g6 29 [.slice AC C.length cC, .slice AG i cG, .int .i64 (0), .slice none 0 0, .int .i64 0, .int .i64 0, .int .i64 0], .row AC cC 77 1 C.length (C.map uV), .row AG cG 26 1 i (S.map svV), .keep K wk]) ?_ ?_
  · skip
    refine gc_seq fun K7 hK7 => ?_
    refine gc_region ?_
    refine gl_op rfl rfl rfl (op_pure hT rfl) ?_
    refine gl_nil ?_
    refine hK7 _ _ ?_
    clear hK7; try clear K7
    refine gc_block ?_
    have hS := (hS.nil 26 1).keep0
    have hk0 : 0 ≤ k := hB30.1
    have hlv : s3.e = 0 → C.length = n.toNat ∧ n ≤ 256 ∧ k ≤ 256 ∧ 0 ≤ s3.a ∧ s3.a ≤ l.length ∧ l.length ≤ 1048576 := fun h => by
      have h1 := hB30.2.2.1 h
      have h2 := hM27 h1.1
      have h3 := hF27.2.2.2 h1.1
      have h4 := hB24.2.2.1 h3
      have h5 := hH5 h4.1
      omega
    obtain ⟨k, rfl⟩ : ∃ kk : Nat, k = kk := ⟨k.toNat, by omega⟩
    simp only [Int.toNat_natCast] at hL
    refine gc_loop (fun kk a' w' => ∃ (i : Nat) (S : List Sv) (G : List (List Nat)) (s : RS) (AG : Option Addr) (cG : Nat) (K : Nat → Prop) (wk : World), Fr 156 a' [(2, .pointer (some ⟨g2, 0, none⟩)), (5, .pointer (some ⟨gc, 0, none⟩)), (6, .pointer (some ⟨g6, 0, none⟩)), (7, .int .i64 n), (8, .int .i64 (k : Nat)), (9, .int .i64 (i : Nat))] ∧ i ≤ k ∧ kk = k + 1 - i ∧ 0 ≤ s.a ∧
      (s.e = 0 → C.length = n.toNat ∧ n ≤ 256 ∧ k ≤ 256 ∧ 0 ≤ s.a ∧ s.a ≤ l.length ∧ l.length ≤ 1048576) ∧ G.length = i ∧ i ≤ 257 ∧ Lv l s (dpRows l ⟨C, [], 0, [], 0, 0, 0⟩ (k - i) G s.a) ∧ Bcs wk K S G ∧ St w.heap.size w w' [.blk gc 116 (rsC A l.length c (s)), .blk g2 29 zP, .blk g6 29 [.slice AC C.length cC, .slice AG i cG, .int .i64 (0), .slice none 0 0, .int .i64 0, .int .i64 0, .int .i64 0], .row AC cC 77 1 C.length (C.map uV), .row AG cG 26 1 i (S.map svV), .keep K wk]) (k + 1) ?_ ?_ ?_
    · intro a' ha; exact ⟨0, [], [], s3, none, 0, _, _, ha.sub ⟨rfl, rfl, rfl, rfl, rfl, rfl, trivial⟩, by omega, by omega, by omega, (fun h => by have := hlv h; omega), rfl, by omega, hL, ⟨rfl, fun i x l h => by simp at h⟩, hS⟩
    · rintro a' w' ⟨i, _, _, _, _, _, _, _, _, h1, h2, _⟩; omega
    clear hS hL hlv
    rintro kk a' w1 ⟨i, S, G, s, AG, cG, K, wk, hF, hi, hk, ha, hlv, hGl, hi257, hL, hP, hS⟩
    refine gc_of hF ?_
    clear hF
    have hSl := hP.1
    refine gc_seq fun K8 hK8 => ?_
    refine gc_seq fun K9 hK9 => ?_
    refine gc_region ?_
    refine gl_op rfl rfl rfl (op_pure hT rfl) ?_
    refine gl_op rfl rfl rfl (op_pure hT rfl) ?_
    refine gl_op rfl rfl rfl (op_pure hT rfl) ?_
    refine gl_op rfl rfl rfl (op_pure hT rfl) ?_
    refine gl_split (t := 34) rfl (fun c34 => ?_) (fun c34 => ?_)
    · try simp only [decide_eq_true_eq, decide_eq_false_iff_not, Bool.not_eq_true', Bool.not_eq_false', Int.not_lt, Int.not_le, Nat.not_lt, Nat.not_le, Bool.true_eq, Bool.false_eq, reduceCtorEq] at c34
      refine gl_un rfl rfl rfl rfl ?_
      refine gl_op rfl rfl rfl (op_pure hT rfl) ?_
      refine gl_un rfl rfl rfl rfl ?_
      refine gl_op rfl rfl rfl (op_pure hT rfl) ?_
      refine gl_un rfl rfl rfl rfl ?_
      refine gl_op rfl rfl rfl (op_fieldB 2 rfl Tryd.underlying116 rfl el3 rfl rfl) ?_
      refine gl_un rfl rfl rfl rfl ?_
      refine gl_op rfl rfl rfl (op_loadB 0 hT hS rfl rfl rfl rfl rfl rfl) ?_
      refine gl_un rfl rfl rfl rfl ?_
      refine gl_op rfl rfl rfl (op_pure hT rfl) ?_
      refine gl_op rfl rfl rfl (op_pure hT rfl) ?_
      refine gl_nil ?_
      refine hK9 _ _ ?_
      clear hK9; try clear K9
      refine gc_cond rfl rfl (fun c40 => ?_) (fun c40 => ?_)
      · try simp only [decide_eq_true_eq, decide_eq_false_iff_not, Bool.not_eq_true', Bool.not_eq_false', Int.not_lt, Int.not_le, Nat.not_lt, Nat.not_le, Bool.true_eq, Bool.false_eq, reduceCtorEq] at c40
        refine gc_skip ?_
        refine hK8 _ _ ?_
        clear hK8; try clear K8
        refine gc_seq fun K10 hK10 => ?_
        refine gc_block ?_
        refine gc_anyS (((hS.blank 0).blank 2).blank 4) (by kernel_rfl) rfl fun nq10 hK => ?_
        have hS := hS.dr nq10
        have hlv0 := hlv (by omega)
        refine ga_take 0 rfl rfl rfl rfl (by kernel_rfl) (fun _ _ _ _ h => h) hK (fun w1 hS => op_fieldB 1 rfl Tryd.underlying29 rfl el27 rfl rfl) ?_
        refine ga_take 2 rfl rfl rfl rfl (by kernel_rfl) (fun _ _ _ _ h => h) hK (fun w1 hS => op_pure hT rfl) ?_
        refine ga_take 3 rfl rfl rfl rfl (by kernel_rfl) (fun _ _ _ _ h => h) hK (fun w1 hS => op_pure hT rfl) ?_
        refine ga_two 1 4 (by kernel_rfl) rfl rfl ?_ ?_
        · skip
          refine gl_op rfl rfl rfl (op_loadB 2 hT hS rfl rfl rfl rfl rfl rfl) ?_
          refine gl_nil ?_
          refine ga_next ((((hS.blank 0).blank 2).blank 4).pre 6) fun hK => ?_
          refine ga_one 4 (by kernel_rfl) rfl ?_
          refine gl_callf rfl rfl rfl rfl Tryd.func62 rfl rfl rfl (rdFloats_calls gc _ A c l s n _ _ hS hr hb (by omega) (fun _ => by omega) (by omega)) ?_
          rintro _ w47 ⟨A47, c47, rfl, hS⟩
          refine ⟨_, rfl, ?_⟩
          have hS := hS.toEnd
          have hF47 := rsFs_ok l n.toNat s
          have hM47 := rsFs_live l n.toNat s (fun _ => by omega)
          have hD47 : s.e ≠ 0 → (rsFs l n.toNat s).1 = [] := fun h => by rw [rsFs_dead h]
          have hL := lvF (f := fun us b => dpRows l ⟨C, [], 0, [], 0, 0, 0⟩ (k - (i + 1)) (G ++ [us]) b) (dpRows_lv hL hlv0.1 (by omega))
          generalize hq47 : rsFs l n.toNat s = q at hS hL hF47 hM47 hD47 ⊢
          obtain ⟨us, s5⟩ := q
          simp only at hS hL hF47 hM47 hD47 ⊢
          clear hq47
          refine gl_nil ?_
          refine ga_next ((((hS.blank 0).blank 2).blank 4).pre 6) fun hK => ?_
          refine ga_one 5 (by kernel_rfl) rfl ?_
          refine gl_lit hT hS el26 rfl rfl rfl rfl rfl rfl rfl rfl rfl fun g48 w48 hS => ?_
          refine gl_nil ?_
          refine ga_next ((((hS.blank 0).blank 2).blank 4).pre 6) fun hK => ?_
          refine ga_one 6 (by kernel_rfl) rfl ?_
          refine gl_append 4 hT hS el26 (hS.rd (i := 7) rfl) (rfl) rfl rfl rfl rfl rfl rfl rfl rfl (by first | omega | (simp; omega)) (by first | omega | (simp; omega)) fun A49 c49 w49 hS => ?_
          have hS := hS.erase 7
          refine gl_nil ?_
          refine ga_next ((((hS.blank 0).blank 2).blank 4).pre 6) fun hK => ?_
          refine ga_take 7 rfl rfl rfl rfl (by kernel_rfl) (fun _ _ _ _ h => h) hK (fun w1 hS => op_fieldB 1 rfl Tryd.underlying29 rfl el27 rfl rfl) ?_
          refine ga_one 8 (by kernel_rfl) rfl ?_
          refine gl_store 2 hS el27.cellsOf.1 el27.cellsOf.2 rfl rfl rfl rfl rfl rfl rfl rfl fun wambitref8_go_346 hS => ?_
          refine gl_nil ?_
          refine ga_next ((((hS.blank 0).blank 2).blank 4).pre 6) fun hK => ?_
          refine ga_done (by kernel_rfl) ?_
          refine hK10 _ _ ?_
          clear hK10; try clear K10
          refine gc_region ?_
          refine gl_op rfl rfl rfl (op_pure hT rfl) ?_
          first | refine gl_fit hT rfl rfl rfl rfl (by omega) ?_ | refine gl_op rfl rfl rfl (op_pure hT rfl) ?_
          refine gl_op rfl rfl rfl (op_pure hT rfl) ?_
          refine gl_nil ?_
          intro a' ha
          have hS : St w.heap.size w _ ([.blk gc 116 (rsC A l.length c (s5)), .blk g2 29 zP, .blk g6 29 [.slice AC C.length cC, .slice A49 (i + 1) c49, .int .i64 (0), .slice none 0 0, .int .i64 0, .int .i64 0, .int .i64 0], .row AC cC 77 1 C.length (C.map uV), .row A49 c49 26 1 (i + 1) (S.map svV ++ [svV (A47, us.length, c47)])] ++ [.keep K wk, .row A47 c47 77 1 us.length (us.map uV)]) := hS
          have hP1 := hP.lift (ok' := fun b => ∃ it ∈ [It.keep K wk, .row A47 c47 77 1 us.length (us.map uV)], it.fp b) fun h => (hS.keepRd (i := 5) rfl h).weaken (keep_mem (x := .keep K wk) (.head _))
          have hP2 := hP1.snoc (x := (A47, us.length, c47)) (l := us) (rdE_of (hS.rowRd (i := 6) rfl (keep_mem (.tail _ (.head _)))) rfl) rfl (by omega) hF47.2.1
          refine ⟨i + 1, S ++ [(A47, us.length, c47)], G ++ [us], s5, A49, c49, _, _, ha.sub ⟨rfl, rfl, rfl, rfl, rfl, rfl, trivial⟩, by omega, by omega, hF47.2.2.1 (by omega), fun h => by have := hM47 h; omega, by rw [List.length_append, hGl]; rfl, by omega, hL, hP2, ?_⟩
          rw [List.map_append]
          exact hS.keepRest
        · skip
          refine gl_callf rfl rfl rfl rfl Tryd.func62 rfl rfl rfl (rdFloats_calls gc _ A c l s n _ _ hS hr hb (by omega) (fun _ => by omega) (by omega)) ?_
          rintro _ w47 ⟨A47, c47, rfl, hS⟩
          refine ⟨_, rfl, ?_⟩
          have hS := hS.toEnd
          have hF47 := rsFs_ok l n.toNat s
          have hM47 := rsFs_live l n.toNat s (fun _ => by omega)
          have hD47 : s.e ≠ 0 → (rsFs l n.toNat s).1 = [] := fun h => by rw [rsFs_dead h]
          have hL := lvF (f := fun us b => dpRows l ⟨C, [], 0, [], 0, 0, 0⟩ (k - (i + 1)) (G ++ [us]) b) (dpRows_lv hL hlv0.1 (by omega))
          generalize hq47 : rsFs l n.toNat s = q at hS hL hF47 hM47 hD47 ⊢
          obtain ⟨us, s5⟩ := q
          simp only at hS hL hF47 hM47 hD47 ⊢
          clear hq47
          refine gl_nil ?_
          refine ga_next ((((hS.blank 0).blank 2).blank 4).pre 6) fun hK => ?_
          refine ga_two 1 5 (by kernel_rfl) rfl rfl ?_ ?_
          · skip
            refine gl_op rfl rfl rfl (op_loadB 2 hT hS rfl rfl rfl rfl rfl rfl) ?_
            refine gl_nil ?_
            refine ga_next ((((hS.blank 0).blank 2).blank 4).pre 6) fun hK => ?_
            refine ga_one 5 (by kernel_rfl) rfl ?_
            refine gl_lit hT hS el26 rfl rfl rfl rfl rfl rfl rfl rfl rfl fun g48 w48 hS => ?_
            refine gl_nil ?_
            refine ga_next ((((hS.blank 0).blank 2).blank 4).pre 6) fun hK => ?_
            refine ga_one 6 (by kernel_rfl) rfl ?_
            refine gl_append 4 hT hS el26 (hS.rd (i := 7) rfl) (rfl) rfl rfl rfl rfl rfl rfl rfl rfl (by first | omega | (simp; omega)) (by first | omega | (simp; omega)) fun A49 c49 w49 hS => ?_
            have hS := hS.erase 7
            refine gl_nil ?_
            refine ga_next ((((hS.blank 0).blank 2).blank 4).pre 6) fun hK => ?_
            refine ga_take 7 rfl rfl rfl rfl (by kernel_rfl) (fun _ _ _ _ h => h) hK (fun w1 hS => op_fieldB 1 rfl Tryd.underlying29 rfl el27 rfl rfl) ?_
            refine ga_one 8 (by kernel_rfl) rfl ?_
            refine gl_store 2 hS el27.cellsOf.1 el27.cellsOf.2 rfl rfl rfl rfl rfl rfl rfl rfl fun wambitref8_go_346 hS => ?_
            refine gl_nil ?_
            refine ga_next ((((hS.blank 0).blank 2).blank 4).pre 6) fun hK => ?_
            refine ga_done (by kernel_rfl) ?_
            refine hK10 _ _ ?_
            clear hK10; try clear K10
            refine gc_region ?_
            refine gl_op rfl rfl rfl (op_pure hT rfl) ?_
            first | refine gl_fit hT rfl rfl rfl rfl (by omega) ?_ | refine gl_op rfl rfl rfl (op_pure hT rfl) ?_
            refine gl_op rfl rfl rfl (op_pure hT rfl) ?_
            refine gl_nil ?_
            intro a' ha
            have hS : St w.heap.size w _ ([.blk gc 116 (rsC A l.length c (s5)), .blk g2 29 zP, .blk g6 29 [.slice AC C.length cC, .slice A49 (i + 1) c49, .int .i64 (0), .slice none 0 0, .int .i64 0, .int .i64 0, .int .i64 0], .row AC cC 77 1 C.length (C.map uV), .row A49 c49 26 1 (i + 1) (S.map svV ++ [svV (A47, us.length, c47)])] ++ [.keep K wk, .row A47 c47 77 1 us.length (us.map uV)]) := hS
            have hP1 := hP.lift (ok' := fun b => ∃ it ∈ [It.keep K wk, .row A47 c47 77 1 us.length (us.map uV)], it.fp b) fun h => (hS.keepRd (i := 5) rfl h).weaken (keep_mem (x := .keep K wk) (.head _))
            have hP2 := hP1.snoc (x := (A47, us.length, c47)) (l := us) (rdE_of (hS.rowRd (i := 6) rfl (keep_mem (.tail _ (.head _)))) rfl) rfl (by omega) hF47.2.1
            refine ⟨i + 1, S ++ [(A47, us.length, c47)], G ++ [us], s5, A49, c49, _, _, ha.sub ⟨rfl, rfl, rfl, rfl, rfl, rfl, trivial⟩, by omega, by omega, hF47.2.2.1 (by omega), fun h => by have := hM47 h; omega, by rw [List.length_append, hGl]; rfl, by omega, hL, hP2, ?_⟩
            rw [List.map_append]
            exact hS.keepRest
          · skip
            refine gl_lit hT hS el26 rfl rfl rfl rfl rfl rfl rfl rfl rfl fun g48 w48 hS => ?_
            refine gl_nil ?_
            refine ga_next ((((hS.blank 0).blank 2).blank 4).pre 6) fun hK => ?_
            refine ga_one 1 (by kernel_rfl) rfl ?_
            refine gl_op rfl rfl rfl (op_loadB 2 hT hS rfl rfl rfl rfl rfl rfl) ?_
            refine gl_nil ?_
            refine ga_next ((((hS.blank 0).blank 2).blank 4).pre 6) fun hK => ?_
            refine ga_one 6 (by kernel_rfl) rfl ?_
            refine gl_append 4 hT hS el26 (hS.rd (i := 7) rfl) (rfl) rfl rfl rfl rfl rfl rfl rfl rfl (by first | omega | (simp; omega)) (by first | omega | (simp; omega)) fun A49 c49 w49 hS => ?_
            have hS := hS.erase 7
            refine gl_nil ?_
            refine ga_next ((((hS.blank 0).blank 2).blank 4).pre 6) fun hK => ?_
            refine ga_take 7 rfl rfl rfl rfl (by kernel_rfl) (fun _ _ _ _ h => h) hK (fun w1 hS => op_fieldB 1 rfl Tryd.underlying29 rfl el27 rfl rfl) ?_
            refine ga_one 8 (by kernel_rfl) rfl ?_
            refine gl_store 2 hS el27.cellsOf.1 el27.cellsOf.2 rfl rfl rfl rfl rfl rfl rfl rfl fun wambitref8_go_346 hS => ?_
            refine gl_nil ?_
            refine ga_next ((((hS.blank 0).blank 2).blank 4).pre 6) fun hK => ?_
            refine ga_done (by kernel_rfl) ?_
            refine hK10 _ _ ?_
            clear hK10; try clear K10
            refine gc_region ?_
            refine gl_op rfl rfl rfl (op_pure hT rfl) ?_
            first | refine gl_fit hT rfl rfl rfl rfl (by omega) ?_ | refine gl_op rfl rfl rfl (op_pure hT rfl) ?_
            refine gl_op rfl rfl rfl (op_pure hT rfl) ?_
            refine gl_nil ?_
            intro a' ha
            have hS : St w.heap.size w _ ([.blk gc 116 (rsC A l.length c (s5)), .blk g2 29 zP, .blk g6 29 [.slice AC C.length cC, .slice A49 (i + 1) c49, .int .i64 (0), .slice none 0 0, .int .i64 0, .int .i64 0, .int .i64 0], .row AC cC 77 1 C.length (C.map uV), .row A49 c49 26 1 (i + 1) (S.map svV ++ [svV (A47, us.length, c47)])] ++ [.keep K wk, .row A47 c47 77 1 us.length (us.map uV)]) := hS
            have hP1 := hP.lift (ok' := fun b => ∃ it ∈ [It.keep K wk, .row A47 c47 77 1 us.length (us.map uV)], it.fp b) fun h => (hS.keepRd (i := 5) rfl h).weaken (keep_mem (x := .keep K wk) (.head _))
            have hP2 := hP1.snoc (x := (A47, us.length, c47)) (l := us) (rdE_of (hS.rowRd (i := 6) rfl (keep_mem (.tail _ (.head _)))) rfl) rfl (by omega) hF47.2.1
            refine ⟨i + 1, S ++ [(A47, us.length, c47)], G ++ [us], s5, A49, c49, _, _, ha.sub ⟨rfl, rfl, rfl, rfl, rfl, rfl, trivial⟩, by omega, by omega, hF47.2.2.1 (by omega), fun h => by have := hM47 h; omega, by rw [List.length_append, hGl]; rfl, by omega, hL, hP2, ?_⟩
            rw [List.map_append]
            exact hS.keepRest
      · try simp only [decide_eq_true_eq, decide_eq_false_iff_not, Bool.not_eq_true', Bool.not_eq_false', Int.not_lt, Int.not_le, Nat.not_lt, Nat.not_le, Bool.true_eq, Bool.false_eq, reduceCtorEq] at c40
        refine gc_exit ?_
        intro a' ha'
        refine ⟨i, S, G, s, AG, cG, K, wk, ha'.sub ⟨rfl, rfl, rfl, trivial⟩, ha, fun h => by have := hlv h; omega, hGl, hi257, ?_, hP, hS⟩
        by_cases he : s.e = 0
        · have hik : k - i = 0 := by omega
          rw [hik] at hL
          exact hL
        · exact hL.dead he
    · try simp only [decide_eq_true_eq, decide_eq_false_iff_not, Bool.not_eq_true', Bool.not_eq_false', Int.not_lt, Int.not_le, Nat.not_lt, Nat.not_le, Bool.true_eq, Bool.false_eq, reduceCtorEq] at c34
      refine gl_pass rfl rfl rfl rfl rfl rfl ?_
      refine gl_pass rfl rfl rfl rfl rfl rfl ?_
      refine gl_pass rfl rfl rfl rfl rfl rfl ?_
      refine gl_pass rfl rfl rfl rfl rfl rfl ?_
      refine gl_pass rfl rfl rfl rfl rfl rfl ?_
      refine gl_op rfl rfl rfl (op_pure hT rfl) ?_
      refine gl_nil ?_
      refine hK9 _ _ ?_
      clear hK9; try clear K9
      refine gc_cond_f rfl ?_
      refine gc_exit ?_
      intro a' ha'
      refine ⟨i, S, G, s, AG, cG, K, wk, ha'.sub ⟨rfl, rfl, rfl, trivial⟩, ha, fun h => by have := hlv h; omega, hGl, hi257, ?_, hP, hS⟩
      by_cases he : s.e = 0
      · have hik : k - i = 0 := by omega
        rw [hik] at hL
        exact hL
      · exact hL.dead he
  rintro a' w1 ⟨i, S, G, s, AG, cG, K, wk, hF, ha, hlv, hGl, hi257, hL, hP, hS⟩
  refine gc_of hF ?_
  clear hF
  have hSl := hP.1
  clear hB30
  refine gc_seq fun K11 hK11 => ?_
  refine gc_region ?_
  refine gl_op rfl rfl rfl (op_pure hT rfl) ?_
  refine gl_op rfl rfl rfl (op_pure hT rfl) ?_
  refine gl_op rfl rfl rfl (op_fieldB 1 rfl Tryd.underlying116 rfl el3 rfl rfl) ?_
  refine gl_op rfl rfl rfl (op_loadB 0 hT hS rfl rfl rfl rfl rfl rfl) ?_
  refine gl_op rfl rfl rfl (op_pure hT rfl) ?_
  refine gl_nil ?_
  refine hK11 _ _ ?_
  clear hK11; try clear K11
  refine gc_seq fun K12 hK12 => ?_
  refine gc_region ?_
  refine gl_op rfl rfl rfl (op_pure hT rfl) ?_
  refine gl_callf rfl rfl rfl rfl Tryd.func63 rfl rfl rfl (rdUint_calls gc _ A c l s _ _ hS hr hb) ?_
  rintro _ w56 ⟨rfl, hS⟩
  refine ⟨_, rfl, ?_⟩
  have hU56 := rsU_ok l s
  have hL := lvU (f := fun t b => dpM l ⟨C, G, t - 1, [], 0, 0, 0⟩ s.a b) hL
  generalize hq56 : rsU l s = q at hS hL hU56 ⊢
  obtain ⟨t9, s6⟩ := q
  simp only at hS hL hU56 ⊢
  clear hq56
  refine gl_fit hT rfl rfl rfl rfl (by omega) ?_
  refine gl_op rfl rfl rfl (op_fieldB 2 rfl Tryd.underlying29 rfl el3 rfl rfl) ?_
  refine gl_store 2 hS el3.cellsOf.1 el3.cellsOf.2 rfl rfl rfl rfl rfl rfl rfl rfl fun wambitref8_go_349 hS => ?_
  refine gl_nil ?_
  refine hK12 _ _ ?_
  clear hK12; try clear K12
  refine gc_seq fun K13 hK13 => ?_
  refine gc_region ?_
  refine gl_op rfl rfl rfl (op_pure hT rfl) ?_
  refine gl_callf rfl rfl rfl rfl Tryd.func61 rfl rfl rfl (rdBounded_calls gc _ A c l s6 0 64 _ _ hS hr hb) ?_
  rintro _ w60 ⟨rfl, hS⟩
  refine ⟨_, rfl, ?_⟩
  have hB60 := rsB_ok l 0 64 s6
  have hL := lvB (lo := 0) (hi := 64) (f := fun n b => dpClaims l ⟨C, G, t9 - 1, [], 0, 0, 0⟩ s.a n.toNat [] b) (c := fun n => 64 < n) (fun v hv => by omega) hL
  generalize hq60 : rsB l 0 64 s6 = q at hS hL hB60 ⊢
  obtain ⟨k, s7⟩ := q
  simp only at hS hL hB60 ⊢
  clear hq60
  refine gl_op rfl rfl rfl (op_pure hT rfl) ?_
  refine gl_nil ?_
  refine hK13 _ _ ?_
  clear hK13; try clear K13
  refine gc_cut (fun a' w' => ∃ (i2 : Nat) (S2 : List Sv) (M : List (List Nat)) (sb : RS) (AM : Option Addr) (cM : Nat) (K2 : Nat → Prop) (wk2 : World), Fr 156 a' [(2, .pointer (some ⟨g2, 0, none⟩)), (5, .pointer (some ⟨gc, 0, none⟩)), (6, .pointer (some ⟨g6, 0, none⟩)), (10, .int .i64 s.a)] ∧ 0 ≤ sb.a ∧
  (sb.e = 0 → C.length ≤ 256 ∧ 0 ≤ sb.a ∧ sb.a ≤ l.length ∧ l.length ≤ 1048576) ∧ M.length = i2 ∧ i2 ≤ 257 ∧ Lv l sb (dpNums l ⟨C, G, t9 - 1, M, 0, 0, 0⟩ s.a sb.a) ∧ Bcs wk2 K2 S2 M ∧ St w.heap.size w w' [.blk gc 116 (rsC A l.length c (sb)), .blk g2 29 zP, .blk g6 29 [.slice AC C.length cC, .slice AG i cG, .int .i64 (t9 - 1), .slice AM i2 cM, .int .i64 0, .int .i64 0, .int .i64 0], .row AC cC 77 1 C.length (C.map uV), .row AG cG 26 1 i (S.map svV), .keep K wk, .row AM cM 26 1 i2 (S2.map svV), .keep K2 wk2]) ?_ ?_
  · skip
    refine gc_seq fun K14 hK14 => ?_
    refine gc_region ?_
    refine gl_op rfl rfl rfl (op_pure hT rfl) ?_
    refine gl_nil ?_
    refine hK14 _ _ ?_
    clear hK14; try clear K14
    refine gc_block ?_
    have hS := (hS.nil 26 1).keep0
    have hk0 : 0 ≤ k := hB60.1
    have hlv1 : s7.e = 0 → C.length ≤ 256 ∧ k ≤ 64 ∧ 0 ≤ s7.a ∧ s7.a ≤ l.length ∧ l.length ≤ 1048576 := fun h => by
      have h1 := hB60.2.2.1 h
      have h2 := hU56.2.2.1 h1.1
      have h3 := hlv h2.1
      omega
    obtain ⟨k, rfl⟩ : ∃ kk : Nat, k = kk := ⟨k.toNat, by omega⟩
    simp only [Int.toNat_natCast] at hL
    refine gc_loop (fun kk a' w' => ∃ (i2 : Nat) (S2 : List Sv) (M : List (List Nat)) (sb : RS) (AM : Option Addr) (cM : Nat) (K2 : Nat → Prop) (wk2 : World), Fr 156 a' [(2, .pointer (some ⟨g2, 0, none⟩)), (5, .pointer (some ⟨gc, 0, none⟩)), (6, .pointer (some ⟨g6, 0, none⟩)), (10, .int .i64 s.a), (11, .int .i64 (k : Nat)), (12, .int .i64 (i2 : Nat))] ∧ i2 ≤ k ∧ kk = k + 1 - i2 ∧ 0 ≤ sb.a ∧
      (sb.e = 0 → C.length ≤ 256 ∧ k ≤ 64 ∧ 0 ≤ sb.a ∧ sb.a ≤ l.length ∧ l.length ≤ 1048576) ∧ M.length = i2 ∧ i2 ≤ 257 ∧ Lv l sb (dpClaims l ⟨C, G, t9 - 1, [], 0, 0, 0⟩ s.a (k - i2) M sb.a) ∧ Bcs wk2 K2 S2 M ∧ St w.heap.size w w' [.blk gc 116 (rsC A l.length c (sb)), .blk g2 29 zP, .blk g6 29 [.slice AC C.length cC, .slice AG i cG, .int .i64 (t9 - 1), .slice AM i2 cM, .int .i64 0, .int .i64 0, .int .i64 0], .row AC cC 77 1 C.length (C.map uV), .row AG cG 26 1 i (S.map svV), .keep K wk, .row AM cM 26 1 i2 (S2.map svV), .keep K2 wk2]) (k + 1) ?_ ?_ ?_
    · intro a' ha; exact ⟨0, [], [], s7, none, 0, _, _, ha.sub ⟨rfl, rfl, rfl, rfl, rfl, rfl, trivial⟩, by omega, by omega, by omega, (fun h => by have := hlv1 h; omega), rfl, by omega, hL, ⟨rfl, fun i x l h => by simp at h⟩, hS⟩
    · rintro a' w' ⟨i, _, _, _, _, _, _, _, _, h1, h2, _⟩; omega
    have hPG := hP
    have hSGl := hSl
    clear hS hL hlv1 hP hSl
    rintro kk a' w1 ⟨i2, S2, M, sb, AM, cM, K2, wk2, hF, hi, hk, hab, hlv1, hMl, hj257, hL, hP, hS⟩
    refine gc_of hF ?_
    clear hF
    have hSl := hP.1
    refine gc_seq fun K15 hK15 => ?_
    refine gc_seq fun K16 hK16 => ?_
    refine gc_region ?_
    refine gl_op rfl rfl rfl (op_pure hT rfl) ?_
    refine gl_op rfl rfl rfl (op_pure hT rfl) ?_
    refine gl_op rfl rfl rfl (op_pure hT rfl) ?_
    refine gl_op rfl rfl rfl (op_pure hT rfl) ?_
    refine gl_split (t := 64) rfl (fun c64 => ?_) (fun c64 => ?_)
    · try simp only [decide_eq_true_eq, decide_eq_false_iff_not, Bool.not_eq_true', Bool.not_eq_false', Int.not_lt, Int.not_le, Nat.not_lt, Nat.not_le, Bool.true_eq, Bool.false_eq, reduceCtorEq] at c64
      refine gl_un rfl rfl rfl rfl ?_
      refine gl_op rfl rfl rfl (op_pure hT rfl) ?_
      refine gl_un rfl rfl rfl rfl ?_
      refine gl_op rfl rfl rfl (op_pure hT rfl) ?_
      refine gl_un rfl rfl rfl rfl ?_
      refine gl_op rfl rfl rfl (op_fieldB 2 rfl Tryd.underlying116 rfl el3 rfl rfl) ?_
      refine gl_un rfl rfl rfl rfl ?_
      refine gl_op rfl rfl rfl (op_loadB 0 hT hS rfl rfl rfl rfl rfl rfl) ?_
      refine gl_un rfl rfl rfl rfl ?_
      refine gl_op rfl rfl rfl (op_pure hT rfl) ?_
      refine gl_op rfl rfl rfl (op_pure hT rfl) ?_
      refine gl_nil ?_
      refine hK16 _ _ ?_
      clear hK16; try clear K16
      refine gc_cond rfl rfl (fun c70 => ?_) (fun c70 => ?_)
      · try simp only [decide_eq_true_eq, decide_eq_false_iff_not, Bool.not_eq_true', Bool.not_eq_false', Int.not_lt, Int.not_le, Nat.not_lt, Nat.not_le, Bool.true_eq, Bool.false_eq, reduceCtorEq] at c70
        refine gc_skip ?_
        refine hK15 _ _ ?_
        clear hK15; try clear K15
        refine gc_seq fun K17 hK17 => ?_
        refine gc_block ?_
        refine gc_seq fun K18 hK18 => ?_
        refine gc_region ?_
        refine gl_op rfl rfl rfl (op_pure hT rfl) ?_
        refine gl_op rfl rfl rfl (op_pure hT rfl) ?_
        refine gl_op rfl rfl rfl (op_fieldB 1 rfl Tryd.underlying116 rfl el3 rfl rfl) ?_
        refine gl_op rfl rfl rfl (op_loadB 0 hT hS rfl rfl rfl rfl rfl rfl) ?_
        refine gl_op rfl rfl rfl (op_pure hT rfl) ?_
        refine gl_nil ?_
        refine hK18 _ _ ?_
        clear hK18; try clear K18
        refine gc_seq fun K19 hK19 => ?_
        refine gc_region ?_
        refine gl_op rfl rfl rfl (op_pure hT rfl) ?_
        refine gl_callf rfl rfl rfl rfl Tryd.func63 rfl rfl rfl (rdUint_calls gc _ A c l sb _ _ hS hr hb) ?_
        rintro _ w78 ⟨rfl, hS⟩
        refine ⟨_, rfl, ?_⟩
        have hU78 := rsU_ok l sb
        have hL := lvU (f := fun m b => dpClaim1 l ⟨C, G, t9 - 1, [], 0, 0, 0⟩ s.a (k - (i2 + 1)) M sb.a m b) (dpClaims_lv hL (by omega))
        generalize hq78 : rsU l sb = q at hS hL hU78 ⊢
        obtain ⟨m, s8⟩ := q
        simp only at hS hL hU78 ⊢
        clear hq78
        refine gl_op rfl rfl rfl (op_pure hT rfl) ?_
        refine gl_nil ?_
        refine hK19 _ _ ?_
        clear hK19; try clear K19
        refine gc_cut (fun a' w' => ∃ (s9 : RS), Fr 156 a' [(2, .pointer (some ⟨g2, 0, none⟩)), (5, .pointer (some ⟨gc, 0, none⟩)), (6, .pointer (some ⟨g6, 0, none⟩)), (10, .int .i64 s.a), (11, .int .i64 (k : Nat)), (12, .int .i64 (i2 : Nat)), (14, .int .i64 m)] ∧ 0 ≤ s9.a ∧
        (s9.e = 0 → s8.e = 0 ∧ s9.a = s8.a ∧ m ≤ 257) ∧ Lv l s9 (dpClaim2 l ⟨C, G, t9 - 1, [], 0, 0, 0⟩ s.a (k - (i2 + 1)) M m s9.a) ∧ St w.heap.size w w' [.blk gc 116 (rsC A l.length c (s9)), .blk g2 29 zP, .blk g6 29 [.slice AC C.length cC, .slice AG i cG, .int .i64 (t9 - 1), .slice AM i2 cM, .int .i64 0, .int .i64 0, .int .i64 0], .row AC cC 77 1 C.length (C.map uV), .row AG cG 26 1 i (S.map svV), .keep K wk, .row AM cM 26 1 i2 (S2.map svV), .keep K2 wk2]) ?_ ?_
        · skip
          refine gc_seq fun K20 hK20 => ?_
          refine gc_region ?_
          refine gl_op rfl rfl rfl (op_pure hT rfl) ?_
          refine gl_op rfl rfl rfl (op_pure hT rfl) ?_
          refine gl_op rfl rfl rfl (op_fieldB 2 rfl Tryd.underlying116 rfl el3 rfl rfl) ?_
          refine gl_op rfl rfl rfl (op_loadB 0 hT hS rfl rfl rfl rfl rfl rfl) ?_
          refine gl_op rfl rfl rfl (op_pure hT rfl) ?_
          refine gl_op rfl rfl rfl (op_pure hT rfl) ?_
          refine gl_split (t := 84) rfl (fun c84 => ?_) (fun c84 => ?_)
          · try simp only [decide_eq_true_eq, decide_eq_false_iff_not, Bool.not_eq_true', Bool.not_eq_false', Int.not_lt, Int.not_le, Nat.not_lt, Nat.not_le, Bool.true_eq, Bool.false_eq, reduceCtorEq] at c84
            refine gl_un rfl rfl rfl rfl ?_
            refine gl_op rfl rfl rfl (op_pure hT rfl) ?_
            refine gl_un rfl rfl rfl rfl ?_
            refine gl_op rfl rfl rfl (op_pure hT rfl) ?_
            refine gl_un rfl rfl rfl rfl ?_
            refine gl_op rfl rfl rfl (op_pure hT rfl) ?_
            refine gl_split (t := 87) rfl (fun c87 => ?_) (fun c87 => ?_)
            · try simp only [decide_eq_true_eq, decide_eq_false_iff_not, Bool.not_eq_true', Bool.not_eq_false', Int.not_lt, Int.not_le, Nat.not_lt, Nat.not_le, Bool.true_eq, Bool.false_eq, reduceCtorEq] at c87
              refine gl_pass rfl rfl rfl rfl rfl rfl ?_
              refine gl_pass rfl rfl rfl rfl rfl rfl ?_
              refine gl_un rfl rfl rfl rfl ?_
              refine gl_op rfl rfl rfl (op_pure hT rfl) ?_
              refine gl_un rfl rfl rfl rfl ?_
              refine gl_op rfl rfl rfl (op_pure hT rfl) ?_
              refine gl_pass rfl rfl rfl rfl rfl rfl ?_
              refine gl_pass rfl rfl rfl rfl rfl rfl ?_
              refine gl_pass rfl rfl rfl rfl rfl rfl ?_
              refine gl_none rfl rfl rfl rfl rfl ?_
              refine gl_none rfl rfl rfl rfl rfl ?_
              refine gl_none rfl rfl rfl rfl rfl ?_
              refine gl_none rfl rfl rfl rfl rfl ?_
              refine gl_none rfl rfl rfl rfl rfl ?_
              refine gl_none rfl rfl rfl rfl rfl ?_
              refine gl_none rfl rfl rfl rfl rfl ?_
              refine gl_pass rfl rfl rfl rfl rfl rfl ?_
              refine gl_un rfl rfl rfl rfl ?_
              refine gl_op rfl rfl rfl (op_pure hT rfl) ?_
              refine gl_op rfl rfl rfl (op_pure hT rfl) ?_
              refine gl_nil ?_
              refine hK20 _ _ ?_
              clear hK20; try clear K20
              refine gc_cond_t rfl ?_
              refine gc_region ?_
              refine gl_op rfl rfl rfl (op_pure hT rfl) ?_
              refine gl_op rfl rfl rfl (op_pure hT rfl) ?_
              refine gl_callf rfl rfl rfl rfl Tryd.func64 rfl rfl rfl (rdFail_calls gc _ A l.length c s8 63 sb.a _ _ hS) ?_
              rintro _ w107 ⟨rfl, hS⟩
              refine ⟨_, rfl, ?_⟩
              have hc63 : s8.e = 0 ∧ (m < 2 ∨ 257 < m ∨ (0 < M.length ∧ m ≠ (M.getD 0 []).length)) := by refine ⟨by omega, ?_⟩; first | (left; omega) | (right; left; omega) | (right; right; exact ⟨by omega, by omega⟩)
              refine gl_nil ?_
              intro a' ha'
              first
                | exact ⟨_, ha'.sub ⟨rfl, rfl, rfl, rfl, rfl, rfl, rfl, trivial⟩, (by unfold RS.fl; rw [if_pos ⟨hc63.1, by decide⟩]; exact hU78.2.2.2 hab), (fun h => by unfold RS.fl at h; rw [if_pos ⟨hc63.1, by decide⟩] at h; exact absurd h (show ¬ (63 : Int) = 0 by decide)), (lvI (by decide) (hL : Lv l s8 (dpClaim1 l ⟨C, G, t9 - 1, [], 0, 0, 0⟩ s.a (k - (i2 + 1)) M sb.a m s8.a))).1 hc63 _, hS⟩
                | (refine ⟨s8, ha'.sub ⟨rfl, rfl, rfl, rfl, rfl, rfl, rfl, trivial⟩, hU78.2.2.2 hab, (fun h => ⟨h, rfl, by omega⟩), (lvI (by decide) (hL : Lv l s8 (dpClaim1 l ⟨C, G, t9 - 1, [], 0, 0, 0⟩ s.a (k - (i2 + 1)) M sb.a m s8.a))).2 ?_, hS⟩
                   rintro ⟨h0, h | h | ⟨h, h2⟩⟩ <;> first | omega | (exact h2 (by omega)))
            · try simp only [decide_eq_true_eq, decide_eq_false_iff_not, Bool.not_eq_true', Bool.not_eq_false', Int.not_lt, Int.not_le, Nat.not_lt, Nat.not_le, Bool.true_eq, Bool.false_eq, reduceCtorEq] at c87
              refine gl_un rfl rfl rfl rfl ?_
              refine gl_op rfl rfl rfl (op_pure hT rfl) ?_
              refine gl_un rfl rfl rfl rfl ?_
              refine gl_op rfl rfl rfl (op_pure hT rfl) ?_
              refine gl_un rfl rfl rfl rfl ?_
              refine gl_op rfl rfl rfl (op_pure hT rfl) ?_
              refine gl_un rfl rfl rfl rfl ?_
              refine gl_op rfl rfl rfl (op_pure hT rfl) ?_
              refine gl_split (t := 91) rfl (fun c91 => ?_) (fun c91 => ?_)
              · try simp only [decide_eq_true_eq, decide_eq_false_iff_not, Bool.not_eq_true', Bool.not_eq_false', Int.not_lt, Int.not_le, Nat.not_lt, Nat.not_le, Bool.true_eq, Bool.false_eq, reduceCtorEq] at c91
                refine gl_pass rfl rfl rfl rfl rfl rfl ?_
                refine gl_pass rfl rfl rfl rfl rfl rfl ?_
                refine gl_pass rfl rfl rfl rfl rfl rfl ?_
                refine gl_none rfl rfl rfl rfl rfl ?_
                refine gl_none rfl rfl rfl rfl rfl ?_
                refine gl_none rfl rfl rfl rfl rfl ?_
                refine gl_none rfl rfl rfl rfl rfl ?_
                refine gl_none rfl rfl rfl rfl rfl ?_
                refine gl_none rfl rfl rfl rfl rfl ?_
                refine gl_none rfl rfl rfl rfl rfl ?_
                refine gl_pass rfl rfl rfl rfl rfl rfl ?_
                refine gl_un rfl rfl rfl rfl ?_
                refine gl_op rfl rfl rfl (op_pure hT rfl) ?_
                refine gl_op rfl rfl rfl (op_pure hT rfl) ?_
                refine gl_nil ?_
                refine hK20 _ _ ?_
                clear hK20; try clear K20
                refine gc_cond_t rfl ?_
                refine gc_region ?_
                refine gl_op rfl rfl rfl (op_pure hT rfl) ?_
                refine gl_op rfl rfl rfl (op_pure hT rfl) ?_
                refine gl_callf rfl rfl rfl rfl Tryd.func64 rfl rfl rfl (rdFail_calls gc _ A l.length c s8 63 sb.a _ _ hS) ?_
                rintro _ w107 ⟨rfl, hS⟩
                refine ⟨_, rfl, ?_⟩
                have hc63 : s8.e = 0 ∧ (m < 2 ∨ 257 < m ∨ (0 < M.length ∧ m ≠ (M.getD 0 []).length)) := by refine ⟨by omega, ?_⟩; first | (left; omega) | (right; left; omega) | (right; right; exact ⟨by omega, by omega⟩)
                refine gl_nil ?_
                intro a' ha'
                first
                  | exact ⟨_, ha'.sub ⟨rfl, rfl, rfl, rfl, rfl, rfl, rfl, trivial⟩, (by unfold RS.fl; rw [if_pos ⟨hc63.1, by decide⟩]; exact hU78.2.2.2 hab), (fun h => by unfold RS.fl at h; rw [if_pos ⟨hc63.1, by decide⟩] at h; exact absurd h (show ¬ (63 : Int) = 0 by decide)), (lvI (by decide) (hL : Lv l s8 (dpClaim1 l ⟨C, G, t9 - 1, [], 0, 0, 0⟩ s.a (k - (i2 + 1)) M sb.a m s8.a))).1 hc63 _, hS⟩
                  | (refine ⟨s8, ha'.sub ⟨rfl, rfl, rfl, rfl, rfl, rfl, rfl, trivial⟩, hU78.2.2.2 hab, (fun h => ⟨h, rfl, by omega⟩), (lvI (by decide) (hL : Lv l s8 (dpClaim1 l ⟨C, G, t9 - 1, [], 0, 0, 0⟩ s.a (k - (i2 + 1)) M sb.a m s8.a))).2 ?_, hS⟩
                     rintro ⟨h0, h | h | ⟨h, h2⟩⟩ <;> first | omega | (exact h2 (by omega)))
              · try simp only [decide_eq_true_eq, decide_eq_false_iff_not, Bool.not_eq_true', Bool.not_eq_false', Int.not_lt, Int.not_le, Nat.not_lt, Nat.not_le, Bool.true_eq, Bool.false_eq, reduceCtorEq] at c91
                refine gl_un rfl rfl rfl rfl ?_
                refine gl_op rfl rfl rfl (op_pure hT rfl) ?_
                refine gl_un rfl rfl rfl rfl ?_
                refine gl_op rfl rfl rfl (op_pure hT rfl) ?_
                refine gl_un rfl rfl rfl rfl ?_
                refine gl_op rfl rfl rfl (op_pure hT rfl) ?_
                refine gl_split (t := 94) rfl (fun c94 => ?_) (fun c94 => ?_)
                · try simp only [decide_eq_true_eq, decide_eq_false_iff_not, Bool.not_eq_true', Bool.not_eq_false', Int.not_lt, Int.not_le, Nat.not_lt, Nat.not_le, Bool.true_eq, Bool.false_eq, reduceCtorEq] at c94
                  refine gl_un rfl rfl rfl rfl ?_
                  refine gl_op rfl rfl rfl (op_pure hT rfl) ?_
                  refine gl_un rfl rfl rfl rfl ?_
                  refine gl_op rfl rfl rfl (op_fieldB 3 rfl Tryd.underlying29 rfl el27 rfl rfl) ?_
                  refine gl_un rfl rfl rfl rfl ?_
                  refine gl_op rfl rfl rfl (op_loadB 2 hT hS rfl rfl rfl rfl rfl rfl) ?_
                  refine gl_un rfl rfl rfl rfl ?_
                  have hM0 : M[0]? = some (M.getD 0 []) := by rw [List.getD_eq_getElem?_getD, List.getElem?_eq_getElem (by omega)]; rfl
                  obtain ⟨x, hx2⟩ : ∃ x, S2[0]? = some x := ⟨_, List.getElem?_eq_getElem (by omega)⟩
                  have hx3 := hP.2 0 x _ hx2 hM0
                  obtain ⟨ad, hA, hc5⟩ := (rdE_of (l := S2) (enc := svV) (hS.rd (i := 6) rfl) (by omega)).at (none, 0, 0) (i := (0 : Int)) (by omega) (by omega)
                  have hug : S2.getD ((0 : Int)).toNat (none, 0, 0) = x := by show S2.getD 0 _ = x; rw [List.getD_eq_getElem?_getD, hx2]; rfl
                  rw [hug] at hc5
                  refine gl_op rfl rfl rfl (op_indexAddr hT rfl rfl el26.cellsOf.1 el26.cellsOf.2 rfl rfl (by omega) (by omega) hA) ?_
                  refine gl_un rfl rfl rfl rfl ?_
                  refine gl_op rfl rfl rfl (op_load hT rfl rfl rfl rfl hc5) ?_
                  refine gl_un rfl rfl rfl rfl ?_
                  refine gl_op rfl rfl rfl (op_pure hT rfl) ?_
                  refine gl_un rfl rfl rfl rfl ?_
                  refine gl_op rfl rfl rfl (op_pure hT rfl) ?_
                  refine gl_un rfl rfl rfl rfl ?_
                  refine gl_op rfl rfl rfl (op_pure hT rfl) ?_
                  refine gl_un rfl rfl rfl rfl ?_
                  refine gl_op rfl rfl rfl (op_pure hT rfl) ?_
                  refine gl_op rfl rfl rfl (op_pure hT rfl) ?_
                  refine gl_nil ?_
                  refine hK20 _ _ ?_
                  clear hK20; try clear K20
                  refine gc_cond rfl rfl (fun c104 => ?_) (fun c104 => ?_)
                  · try simp only [decide_eq_true_eq, decide_eq_false_iff_not, Bool.not_eq_true', Bool.not_eq_false', Int.not_lt, Int.not_le, Nat.not_lt, Nat.not_le, Bool.true_eq, Bool.false_eq, reduceCtorEq] at c104
                    refine gc_region ?_
                    refine gl_op rfl rfl rfl (op_pure hT rfl) ?_
                    refine gl_op rfl rfl rfl (op_pure hT rfl) ?_
                    refine gl_callf rfl rfl rfl rfl Tryd.func64 rfl rfl rfl (rdFail_calls gc _ A l.length c s8 63 sb.a _ _ hS) ?_
                    rintro _ w107 ⟨rfl, hS⟩
                    refine ⟨_, rfl, ?_⟩
                    have hc63 : s8.e = 0 ∧ (m < 2 ∨ 257 < m ∨ (0 < M.length ∧ m ≠ (M.getD 0 []).length)) := by refine ⟨by omega, ?_⟩; first | (left; omega) | (right; left; omega) | (right; right; exact ⟨by omega, by omega⟩)
                    refine gl_nil ?_
                    intro a' ha'
                    first
                      | exact ⟨_, ha'.sub ⟨rfl, rfl, rfl, rfl, rfl, rfl, rfl, trivial⟩, (by unfold RS.fl; rw [if_pos ⟨hc63.1, by decide⟩]; exact hU78.2.2.2 hab), (fun h => by unfold RS.fl at h; rw [if_pos ⟨hc63.1, by decide⟩] at h; exact absurd h (show ¬ (63 : Int) = 0 by decide)), (lvI (by decide) (hL : Lv l s8 (dpClaim1 l ⟨C, G, t9 - 1, [], 0, 0, 0⟩ s.a (k - (i2 + 1)) M sb.a m s8.a))).1 hc63 _, hS⟩
                      | (refine ⟨s8, ha'.sub ⟨rfl, rfl, rfl, rfl, rfl, rfl, rfl, trivial⟩, hU78.2.2.2 hab, (fun h => ⟨h, rfl, by omega⟩), (lvI (by decide) (hL : Lv l s8 (dpClaim1 l ⟨C, G, t9 - 1, [], 0, 0, 0⟩ s.a (k - (i2 + 1)) M sb.a m s8.a))).2 ?_, hS⟩
                         rintro ⟨h0, h | h | ⟨h, h2⟩⟩ <;> first | omega | (exact h2 (by omega)))
                  · try simp only [decide_eq_true_eq, decide_eq_false_iff_not, Bool.not_eq_true', Bool.not_eq_false', Int.not_lt, Int.not_le, Nat.not_lt, Nat.not_le, Bool.true_eq, Bool.false_eq, reduceCtorEq] at c104
                    refine gc_skip ?_
                    intro a' ha'
                    first
                      | exact ⟨_, ha'.sub ⟨rfl, rfl, rfl, rfl, rfl, rfl, rfl, trivial⟩, (by unfold RS.fl; rw [if_pos ⟨hc63.1, by decide⟩]; exact hU78.2.2.2 hab), (fun h => by unfold RS.fl at h; rw [if_pos ⟨hc63.1, by decide⟩] at h; exact absurd h (show ¬ (63 : Int) = 0 by decide)), (lvI (by decide) (hL : Lv l s8 (dpClaim1 l ⟨C, G, t9 - 1, [], 0, 0, 0⟩ s.a (k - (i2 + 1)) M sb.a m s8.a))).1 hc63 _, hS⟩
                      | (refine ⟨s8, ha'.sub ⟨rfl, rfl, rfl, rfl, rfl, rfl, rfl, trivial⟩, hU78.2.2.2 hab, (fun h => ⟨h, rfl, by omega⟩), (lvI (by decide) (hL : Lv l s8 (dpClaim1 l ⟨C, G, t9 - 1, [], 0, 0, 0⟩ s.a (k - (i2 + 1)) M sb.a m s8.a))).2 ?_, hS⟩
                         rintro ⟨h0, h | h | ⟨h, h2⟩⟩ <;> first | omega | (exact h2 (by omega)))
                · try simp only [decide_eq_true_eq, decide_eq_false_iff_not, Bool.not_eq_true', Bool.not_eq_false', Int.not_lt, Int.not_le, Nat.not_lt, Nat.not_le, Bool.true_eq, Bool.false_eq, reduceCtorEq] at c94
                  refine gl_pass rfl rfl rfl rfl rfl rfl ?_
                  refine gl_pass rfl rfl rfl rfl rfl rfl ?_
                  refine gl_pass rfl rfl rfl rfl rfl rfl ?_
                  refine gl_pass rfl rfl rfl rfl rfl rfl ?_
                  refine gl_pass rfl rfl rfl rfl rfl rfl ?_
                  refine gl_pass rfl rfl rfl rfl rfl rfl ?_
                  refine gl_pass rfl rfl rfl rfl rfl rfl ?_
                  refine gl_un rfl rfl rfl rfl ?_
                  refine gl_op rfl rfl rfl (op_pure hT rfl) ?_
                  refine gl_un rfl rfl rfl rfl ?_
                  refine gl_op rfl rfl rfl (op_pure hT rfl) ?_
                  refine gl_op rfl rfl rfl (op_pure hT rfl) ?_
                  refine gl_nil ?_
                  refine hK20 _ _ ?_
                  clear hK20; try clear K20
                  refine gc_cond_f rfl ?_
                  refine gc_skip ?_
                  intro a' ha'
                  first
                    | exact ⟨_, ha'.sub ⟨rfl, rfl, rfl, rfl, rfl, rfl, rfl, trivial⟩, (by unfold RS.fl; rw [if_pos ⟨hc63.1, by decide⟩]; exact hU78.2.2.2 hab), (fun h => by unfold RS.fl at h; rw [if_pos ⟨hc63.1, by decide⟩] at h; exact absurd h (show ¬ (63 : Int) = 0 by decide)), (lvI (by decide) (hL : Lv l s8 (dpClaim1 l ⟨C, G, t9 - 1, [], 0, 0, 0⟩ s.a (k - (i2 + 1)) M sb.a m s8.a))).1 hc63 _, hS⟩
                    | (refine ⟨s8, ha'.sub ⟨rfl, rfl, rfl, rfl, rfl, rfl, rfl, trivial⟩, hU78.2.2.2 hab, (fun h => ⟨h, rfl, by omega⟩), (lvI (by decide) (hL : Lv l s8 (dpClaim1 l ⟨C, G, t9 - 1, [], 0, 0, 0⟩ s.a (k - (i2 + 1)) M sb.a m s8.a))).2 ?_, hS⟩
                       rintro ⟨h0, h | h | ⟨h, h2⟩⟩ <;> first | omega | (exact h2 (by omega)))
          · try simp only [decide_eq_true_eq, decide_eq_false_iff_not, Bool.not_eq_true', Bool.not_eq_false', Int.not_lt, Int.not_le, Nat.not_lt, Nat.not_le, Bool.true_eq, Bool.false_eq, reduceCtorEq] at c84
            refine gl_pass rfl rfl rfl rfl rfl rfl ?_
            refine gl_pass rfl rfl rfl rfl rfl rfl ?_
            refine gl_pass rfl rfl rfl rfl rfl rfl ?_
            refine gl_none rfl rfl rfl rfl rfl ?_
            refine gl_none rfl rfl rfl rfl rfl ?_
            refine gl_pass rfl rfl rfl rfl rfl rfl ?_
            refine gl_pass rfl rfl rfl rfl rfl rfl ?_
            refine gl_none rfl rfl rfl rfl rfl ?_
            refine gl_none rfl rfl rfl rfl rfl ?_
            refine gl_none rfl rfl rfl rfl rfl ?_
            refine gl_none rfl rfl rfl rfl rfl ?_
            refine gl_none rfl rfl rfl rfl rfl ?_
            refine gl_none rfl rfl rfl rfl rfl ?_
            refine gl_none rfl rfl rfl rfl rfl ?_
            refine gl_none rfl rfl rfl rfl rfl ?_
            refine gl_none rfl rfl rfl rfl rfl ?_
            refine gl_none rfl rfl rfl rfl rfl ?_
            refine gl_none rfl rfl rfl rfl rfl ?_
            refine gl_pass rfl rfl rfl rfl rfl rfl ?_
            refine gl_op rfl rfl rfl (op_pure hT rfl) ?_
            refine gl_nil ?_
            refine hK20 _ _ ?_
            clear hK20; try clear K20
            refine gc_cond_f rfl ?_
            refine gc_skip ?_
            intro a' ha'
            first
              | exact ⟨_, ha'.sub ⟨rfl, rfl, rfl, rfl, rfl, rfl, rfl, trivial⟩, (by unfold RS.fl; rw [if_pos ⟨hc63.1, by decide⟩]; exact hU78.2.2.2 hab), (fun h => by unfold RS.fl at h; rw [if_pos ⟨hc63.1, by decide⟩] at h; exact absurd h (show ¬ (63 : Int) = 0 by decide)), (lvI (by decide) (hL : Lv l s8 (dpClaim1 l ⟨C, G, t9 - 1, [], 0, 0, 0⟩ s.a (k - (i2 + 1)) M sb.a m s8.a))).1 hc63 _, hS⟩
              | (refine ⟨s8, ha'.sub ⟨rfl, rfl, rfl, rfl, rfl, rfl, rfl, trivial⟩, hU78.2.2.2 hab, (fun h => ⟨h, rfl, by omega⟩), (lvI (by decide) (hL : Lv l s8 (dpClaim1 l ⟨C, G, t9 - 1, [], 0, 0, 0⟩ s.a (k - (i2 + 1)) M sb.a m s8.a))).2 ?_, hS⟩
                 rintro ⟨h0, h | h | ⟨h, h2⟩⟩ <;> first | omega | (exact h2 (by omega)))
        rintro a' w1 ⟨s9, hF, ha9, hlv9, hL, hS⟩
        refine gc_of hF ?_
        clear hF
        refine gc_anyS (((hS.blank 0).blank 2).blank 6) (by kernel_rfl) rfl fun nq21 hK => ?_
        have hS := hS.dr nq21
        refine ga_take 0 rfl rfl rfl rfl (by kernel_rfl) (fun _ _ _ _ h => h) hK (fun w1 hS => op_fieldB 3 rfl Tryd.underlying29 rfl el27 rfl rfl) ?_
        refine ga_take 2 rfl rfl rfl rfl (by kernel_rfl) (fun _ _ _ _ h => h) hK (fun w1 hS => op_pure hT rfl) ?_
        refine ga_take 3 rfl rfl rfl rfl (by kernel_rfl) (fun _ _ _ _ h => h) hK (fun w1 hS => op_pure hT rfl) ?_
        refine ga_two 1 4 (by kernel_rfl) rfl rfl ?_ ?_
        · skip
          refine gl_op rfl rfl rfl (op_loadB 2 hT hS rfl rfl rfl rfl rfl rfl) ?_
          refine gl_nil ?_
          refine ga_next ((((hS.blank 0).blank 2).blank 6).pre 8) fun hK => ?_
          refine ga_one 4 (by kernel_rfl) rfl ?_
          refine gl_callf rfl rfl rfl rfl Tryd.func62 rfl rfl rfl (rdFloats_calls gc _ A c l s9 m _ _ hS hr hb (by omega) (fun h => by have := hlv9 h; omega) (by omega)) ?_
          rintro _ w112 ⟨A112, c112, rfl, hS⟩
          refine ⟨_, rfl, ?_⟩
          have hS := hS.toEnd
          have hF112 := rsFs_ok l m.toNat s9
          have hM112 := rsFs_live l m.toNat s9 (fun h => by have := hlv9 h; have := hU78.2.2.1 this.1; omega)
          have hD112 : s9.e ≠ 0 → (rsFs l m.toNat s9).1 = [] := fun h => by rw [rsFs_dead h]
          have hL := lvF (f := fun us b => dpClaims l ⟨C, G, t9 - 1, [], 0, 0, 0⟩ s.a (k - (i2 + 1)) (M ++ [us]) b) hL
          generalize hq112 : rsFs l m.toNat s9 = q at hS hL hF112 hM112 hD112 ⊢
          obtain ⟨us, s10⟩ := q
          simp only at hS hL hF112 hM112 hD112 ⊢
          clear hq112
          refine gl_nil ?_
          refine ga_next ((((hS.blank 0).blank 2).blank 6).pre 8) fun hK => ?_
          refine ga_one 5 (by kernel_rfl) rfl ?_
          refine gl_lit hT hS el26 rfl rfl rfl rfl rfl rfl rfl rfl rfl fun g113 w113 hS => ?_
          refine gl_nil ?_
          refine ga_next ((((hS.blank 0).blank 2).blank 6).pre 8) fun hK => ?_
          refine ga_one 6 (by kernel_rfl) rfl ?_
          refine gl_append 6 hT hS el26 (hS.rd (i := 9) rfl) (rfl) rfl rfl rfl rfl rfl rfl rfl rfl (by first | omega | (simp; omega)) (by first | omega | (simp; omega)) fun A114 c114 w114 hS => ?_
          have hS := hS.erase 9
          refine gl_nil ?_
          refine ga_next ((((hS.blank 0).blank 2).blank 6).pre 8) fun hK => ?_
          refine ga_take 7 rfl rfl rfl rfl (by kernel_rfl) (fun _ _ _ _ h => h) hK (fun w1 hS => op_fieldB 3 rfl Tryd.underlying29 rfl el27 rfl rfl) ?_
          refine ga_one 8 (by kernel_rfl) rfl ?_
          refine gl_store 2 hS el27.cellsOf.1 el27.cellsOf.2 rfl rfl rfl rfl rfl rfl rfl rfl fun wambitref8_go_357 hS => ?_
          refine gl_nil ?_
          refine ga_next ((((hS.blank 0).blank 2).blank 6).pre 8) fun hK => ?_
          refine ga_done (by kernel_rfl) ?_
          refine hK17 _ _ ?_
          clear hK17; try clear K17
          refine gc_region ?_
          refine gl_op rfl rfl rfl (op_pure hT rfl) ?_
          first | refine gl_fit hT rfl rfl rfl rfl (by omega) ?_ | refine gl_op rfl rfl rfl (op_pure hT rfl) ?_
          refine gl_op rfl rfl rfl (op_pure hT rfl) ?_
          refine gl_nil ?_
          intro a' ha
          have hlv0 := hlv1 (by omega)
          have hus : us.length ≤ 1048576 := by
            by_cases h9 : s9.e = 0
            · have := hlv9 h9; omega
            · have := hD112 h9; rw [this]; show 0 ≤ _; omega
          have hS : St w.heap.size w _ ([.blk gc 116 (rsC A l.length c (s10)), .blk g2 29 zP, .blk g6 29 [.slice AC C.length cC, .slice AG i cG, .int .i64 (t9 - 1), .slice A114 (i2 + 1) c114, .int .i64 0, .int .i64 0, .int .i64 0], .row AC cC 77 1 C.length (C.map uV), .row AG cG 26 1 i (S.map svV), .keep K wk, .row A114 c114 26 1 (i2 + 1) (S2.map svV ++ [svV (A112, us.length, c112)])] ++ [.keep K2 wk2, .row A112 c112 77 1 us.length (us.map uV)]) := hS
          have hP1 := hP.lift (ok' := fun b => ∃ it ∈ [It.keep K2 wk2, .row A112 c112 77 1 us.length (us.map uV)], it.fp b) fun h => (hS.keepRd (i := 7) rfl h).weaken (keep_mem (x := .keep K2 wk2) (.head _))
          have hP2 := hP1.snoc (x := (A112, us.length, c112)) (l := us) (rdE_of (hS.rowRd (i := 8) rfl (keep_mem (.tail _ (.head _)))) rfl) rfl (by omega) hF112.2.1
          refine ⟨i2 + 1, S2 ++ [(A112, us.length, c112)], M ++ [us], s10, A114, c114, _, _, ha.sub ⟨rfl, rfl, rfl, rfl, rfl, rfl, trivial⟩, by omega, by omega, hF112.2.2.1 ha9, fun h => by have := hM112 h; omega, by rw [List.length_append, hMl]; rfl, by omega, hL, hP2, ?_⟩
          rw [List.map_append]
          exact hS.keepRest
        · skip
          refine gl_callf rfl rfl rfl rfl Tryd.func62 rfl rfl rfl (rdFloats_calls gc _ A c l s9 m _ _ hS hr hb (by omega) (fun h => by have := hlv9 h; omega) (by omega)) ?_
          rintro _ w112 ⟨A112, c112, rfl, hS⟩
          refine ⟨_, rfl, ?_⟩
          have hS := hS.toEnd
          have hF112 := rsFs_ok l m.toNat s9
          have hM112 := rsFs_live l m.toNat s9 (fun h => by have := hlv9 h; have := hU78.2.2.1 this.1; omega)
          have hD112 : s9.e ≠ 0 → (rsFs l m.toNat s9).1 = [] := fun h => by rw [rsFs_dead h]
          have hL := lvF (f := fun us b => dpClaims l ⟨C, G, t9 - 1, [], 0, 0, 0⟩ s.a (k - (i2 + 1)) (M ++ [us]) b) hL
          generalize hq112 : rsFs l m.toNat s9 = q at hS hL hF112 hM112 hD112 ⊢
          obtain ⟨us, s10⟩ := q
          simp only at hS hL hF112 hM112 hD112 ⊢
          clear hq112
          refine gl_nil ?_
          refine ga_next ((((hS.blank 0).blank 2).blank 6).pre 8) fun hK => ?_
          refine ga_two 1 5 (by kernel_rfl) rfl rfl ?_ ?_
          · skip
            refine gl_op rfl rfl rfl (op_loadB 2 hT hS rfl rfl rfl rfl rfl rfl) ?_
            refine gl_nil ?_
            refine ga_next ((((hS.blank 0).blank 2).blank 6).pre 8) fun hK => ?_
            refine ga_one 5 (by kernel_rfl) rfl ?_
            refine gl_lit hT hS el26 rfl rfl rfl rfl rfl rfl rfl rfl rfl fun g113 w113 hS => ?_
            refine gl_nil ?_
            refine ga_next ((((hS.blank 0).blank 2).blank 6).pre 8) fun hK => ?_
            refine ga_one 6 (by kernel_rfl) rfl ?_
            refine gl_append 6 hT hS el26 (hS.rd (i := 9) rfl) (rfl) rfl rfl rfl rfl rfl rfl rfl rfl (by first | omega | (simp; omega)) (by first | omega | (simp; omega)) fun A114 c114 w114 hS => ?_
            have hS := hS.erase 9
            refine gl_nil ?_
            refine ga_next ((((hS.blank 0).blank 2).blank 6).pre 8) fun hK => ?_
            refine ga_take 7 rfl rfl rfl rfl (by kernel_rfl) (fun _ _ _ _ h => h) hK (fun w1 hS => op_fieldB 3 rfl Tryd.underlying29 rfl el27 rfl rfl) ?_
            refine ga_one 8 (by kernel_rfl) rfl ?_
            refine gl_store 2 hS el27.cellsOf.1 el27.cellsOf.2 rfl rfl rfl rfl rfl rfl rfl rfl fun wambitref8_go_357 hS => ?_
            refine gl_nil ?_
            refine ga_next ((((hS.blank 0).blank 2).blank 6).pre 8) fun hK => ?_
            refine ga_done (by kernel_rfl) ?_
            refine hK17 _ _ ?_
            clear hK17; try clear K17
            refine gc_region ?_
            refine gl_op rfl rfl rfl (op_pure hT rfl) ?_
            first | refine gl_fit hT rfl rfl rfl rfl (by omega) ?_ | refine gl_op rfl rfl rfl (op_pure hT rfl) ?_
            refine gl_op rfl rfl rfl (op_pure hT rfl) ?_
            refine gl_nil ?_
            intro a' ha
            have hlv0 := hlv1 (by omega)
            have hus : us.length ≤ 1048576 := by
              by_cases h9 : s9.e = 0
              · have := hlv9 h9; omega
              · have := hD112 h9; rw [this]; show 0 ≤ _; omega
            have hS : St w.heap.size w _ ([.blk gc 116 (rsC A l.length c (s10)), .blk g2 29 zP, .blk g6 29 [.slice AC C.length cC, .slice AG i cG, .int .i64 (t9 - 1), .slice A114 (i2 + 1) c114, .int .i64 0, .int .i64 0, .int .i64 0], .row AC cC 77 1 C.length (C.map uV), .row AG cG 26 1 i (S.map svV), .keep K wk, .row A114 c114 26 1 (i2 + 1) (S2.map svV ++ [svV (A112, us.length, c112)])] ++ [.keep K2 wk2, .row A112 c112 77 1 us.length (us.map uV)]) := hS
            have hP1 := hP.lift (ok' := fun b => ∃ it ∈ [It.keep K2 wk2, .row A112 c112 77 1 us.length (us.map uV)], it.fp b) fun h => (hS.keepRd (i := 7) rfl h).weaken (keep_mem (x := .keep K2 wk2) (.head _))
            have hP2 := hP1.snoc (x := (A112, us.length, c112)) (l := us) (rdE_of (hS.rowRd (i := 8) rfl (keep_mem (.tail _ (.head _)))) rfl) rfl (by omega) hF112.2.1
            refine ⟨i2 + 1, S2 ++ [(A112, us.length, c112)], M ++ [us], s10, A114, c114, _, _, ha.sub ⟨rfl, rfl, rfl, rfl, rfl, rfl, trivial⟩, by omega, by omega, hF112.2.2.1 ha9, fun h => by have := hM112 h; omega, by rw [List.length_append, hMl]; rfl, by omega, hL, hP2, ?_⟩
            rw [List.map_append]
            exact hS.keepRest
          · skip
            refine gl_lit hT hS el26 rfl rfl rfl rfl rfl rfl rfl rfl rfl fun g113 w113 hS => ?_
            refine gl_nil ?_
            refine ga_next ((((hS.blank 0).blank 2).blank 6).pre 8) fun hK => ?_
            refine ga_one 1 (by kernel_rfl) rfl ?_
            refine gl_op rfl rfl rfl (op_loadB 2 hT hS rfl rfl rfl rfl rfl rfl) ?_
            refine gl_nil ?_
            refine ga_next ((((hS.blank 0).blank 2).blank 6).pre 8) fun hK => ?_
            refine ga_one 6 (by kernel_rfl) rfl ?_
            refine gl_append 6 hT hS el26 (hS.rd (i := 9) rfl) (rfl) rfl rfl rfl rfl rfl rfl rfl rfl (by first | omega | (simp; omega)) (by first | omega | (simp; omega)) fun A114 c114 w114 hS => ?_
            have hS := hS.erase 9
            refine gl_nil ?_
            refine ga_next ((((hS.blank 0).blank 2).blank 6).pre 8) fun hK => ?_
            refine ga_take 7 rfl rfl rfl rfl (by kernel_rfl) (fun _ _ _ _ h => h) hK (fun w1 hS => op_fieldB 3 rfl Tryd.underlying29 rfl el27 rfl rfl) ?_
            refine ga_one 8 (by kernel_rfl) rfl ?_
            refine gl_store 2 hS el27.cellsOf.1 el27.cellsOf.2 rfl rfl rfl rfl rfl rfl rfl rfl fun wambitref8_go_357 hS => ?_
            refine gl_nil ?_
            refine ga_next ((((hS.blank 0).blank 2).blank 6).pre 8) fun hK => ?_
            refine ga_done (by kernel_rfl) ?_
            refine hK17 _ _ ?_
            clear hK17; try clear K17
            refine gc_region ?_
            refine gl_op rfl rfl rfl (op_pure hT rfl) ?_
            first | refine gl_fit hT rfl rfl rfl rfl (by omega) ?_ | refine gl_op rfl rfl rfl (op_pure hT rfl) ?_
            refine gl_op rfl rfl rfl (op_pure hT rfl) ?_
            refine gl_nil ?_
            intro a' ha
            have hlv0 := hlv1 (by omega)
            have hus : us.length ≤ 1048576 := by
              by_cases h9 : s9.e = 0
              · have := hlv9 h9; omega
              · have := hD112 h9; rw [this]; show 0 ≤ _; omega
            have hS : St w.heap.size w _ ([.blk gc 116 (rsC A l.length c (s10)), .blk g2 29 zP, .blk g6 29 [.slice AC C.length cC, .slice AG i cG, .int .i64 (t9 - 1), .slice A114 (i2 + 1) c114, .int .i64 0, .int .i64 0, .int .i64 0], .row AC cC 77 1 C.length (C.map uV), .row AG cG 26 1 i (S.map svV), .keep K wk, .row A114 c114 26 1 (i2 + 1) (S2.map svV ++ [svV (A112, us.length, c112)])] ++ [.keep K2 wk2, .row A112 c112 77 1 us.length (us.map uV)]) := hS
            have hP1 := hP.lift (ok' := fun b => ∃ it ∈ [It.keep K2 wk2, .row A112 c112 77 1 us.length (us.map uV)], it.fp b) fun h => (hS.keepRd (i := 7) rfl h).weaken (keep_mem (x := .keep K2 wk2) (.head _))
            have hP2 := hP1.snoc (x := (A112, us.length, c112)) (l := us) (rdE_of (hS.rowRd (i := 8) rfl (keep_mem (.tail _ (.head _)))) rfl) rfl (by omega) hF112.2.1
            refine ⟨i2 + 1, S2 ++ [(A112, us.length, c112)], M ++ [us], s10, A114, c114, _, _, ha.sub ⟨rfl, rfl, rfl, rfl, rfl, rfl, trivial⟩, by omega, by omega, hF112.2.2.1 ha9, fun h => by have := hM112 h; omega, by rw [List.length_append, hMl]; rfl, by omega, hL, hP2, ?_⟩
            rw [List.map_append]
            exact hS.keepRest
      · try simp only [decide_eq_true_eq, decide_eq_false_iff_not, Bool.not_eq_true', Bool.not_eq_false', Int.not_lt, Int.not_le, Nat.not_lt, Nat.not_le, Bool.true_eq, Bool.false_eq, reduceCtorEq] at c70
        refine gc_exit ?_
        intro a' ha'
        refine ⟨i2, S2, M, sb, AM, cM, K2, wk2, ha'.sub ⟨rfl, rfl, rfl, rfl, trivial⟩, hab, fun h => by have := hlv1 h; omega, hMl, hj257, ?_, hP, hS⟩
        by_cases he : sb.e = 0
        · have hik : k - i2 = 0 := by omega
          rw [hik] at hL
          exact hL
        · exact hL.dead he
    · try simp only [decide_eq_true_eq, decide_eq_false_iff_not, Bool.not_eq_true', Bool.not_eq_false', Int.not_lt, Int.not_le, Nat.not_lt, Nat.not_le, Bool.true_eq, Bool.false_eq, reduceCtorEq] at c64
      refine gl_pass rfl rfl rfl rfl rfl rfl ?_
      refine gl_pass rfl rfl rfl rfl rfl rfl ?_
      refine gl_pass rfl rfl rfl rfl rfl rfl ?_
      refine gl_pass rfl rfl rfl rfl rfl rfl ?_
      refine gl_pass rfl rfl rfl rfl rfl rfl ?_
      refine gl_op rfl rfl rfl (op_pure hT rfl) ?_
      refine gl_nil ?_
      refine hK16 _ _ ?_
      clear hK16; try clear K16
      refine gc_cond_f rfl ?_
      refine gc_exit ?_
      intro a' ha'
      refine ⟨i2, S2, M, sb, AM, cM, K2, wk2, ha'.sub ⟨rfl, rfl, rfl, rfl, trivial⟩, hab, fun h => by have := hlv1 h; omega, hMl, hj257, ?_, hP, hS⟩
      by_cases he : sb.e = 0
      · have hik : k - i2 = 0 := by omega
        rw [hik] at hL
        exact hL
      · exact hL.dead he
  have hPG := hP
  rintro a' w1 ⟨i2, S2, M, sb, AM, cM, K2, wk2, hF, hab, hlv1, hMl, hj257, hL, hP, hS⟩
  refine gc_of hF ?_
  clear hF
  have hSl := hP.1
  clear hB60
  have hPM : ∀ {ok' : Nat → Prop} {w' : World} {x0 x1 x2 : It} (pk pd ps : Int), 0 ≤ pk → pk < 9223372036854775808 → 0 ≤ pd → pd < 9223372036854775808 → 0 ≤ ps → ps < 9223372036854775808 → C.length ≤ 256 → St w.heap.size w w' [x0, x1, x2, .row AC cC 77 1 C.length (C.map uV), .row AG cG 26 1 i (S.map svV), .keep K wk, .row AM cM 26 1 i2 (S2.map svV), .keep K2 wk2] → (∀ x ∈ [It.row AC cC 77 1 C.length (C.map uV), It.row AG cG 26 1 i (S.map svV), .keep K wk, .row AM cM 26 1 i2 (S2.map svV), .keep K2 wk2], ∀ b, It.fp x b → ok' b) → PrU w' ok' (AC, C.length, cC) (AG, i, cG) (AM, i2, cM) S S2 (⟨C, G, t9 - 1, M, pk, pd, ps⟩ : Px) := by
    intro ok' w' x0 x1 x2 pk pd ps _ _ _ _ _ _ hC hS hok
    exact ⟨rdE_of (hS.rowRd (i := 3) rfl (hok _ (.head _))) rfl, rfl, by show C.length ≤ _; omega, hF27.2.1, Bcs.lsU (i := 4) (j := 5) hS rfl rfl (by have := hPG.1; omega) hPG (hok _ (.tail _ (.head _))) (hok _ (.tail _ (.tail _ (.head _)))), hGl.symm, by show G.length ≤ _; omega,
      Bcs.lsU (i := 6) (j := 7) hS rfl rfl (by omega) hP (hok _ (.tail _ (.tail _ (.tail _ (.head _))))) (hok _ (.tail _ (.tail _ (.tail _ (.tail _ (.head _)))))), hMl.symm, by show M.length ≤ _; omega, by unfold i64; show _ ≤ t9 - 1 ∧ t9 - 1 ≤ _; omega, by unfold i64; show _ ≤ pk ∧ pk ≤ _; omega, by unfold i64; show _ ≤ pd ∧ pd ≤ _; omega, by unfold i64; show _ ≤ ps ∧ ps ≤ _; omega⟩
  refine gc_seq fun K21 hK21 => ?_
  refine gc_region ?_
  refine gl_op rfl rfl rfl (op_pure hT rfl) ?_
  refine gl_callf rfl rfl rfl rfl Tryd.func63 rfl rfl rfl (rdUint_calls gc _ A c l sb _ _ hS hr hb) ?_
  rintro _ w117 ⟨rfl, hS⟩
  refine ⟨_, rfl, ?_⟩
  have hU117 := rsU_ok l sb
  have hL := lvU (f := fun v b => dpNums2 l ⟨C, G, t9 - 1, M, 0, 0, 0⟩ s.a v b) (dpNums_lv hL)
  generalize hq117 : rsU l sb = q at hS hL hU117 ⊢
  obtain ⟨pk, sk⟩ := q
  simp only at hS hL hU117 ⊢
  clear hq117
  refine gl_op rfl rfl rfl (op_fieldB 4 rfl Tryd.underlying29 rfl el3 rfl rfl) ?_
  refine gl_store 2 hS el3.cellsOf.1 el3.cellsOf.2 rfl rfl rfl rfl rfl rfl rfl rfl fun wambitref8_go_359 hS => ?_
  refine gl_nil ?_
  refine hK21 _ _ ?_
  clear hK21; try clear K21
  refine gc_seq fun K22 hK22 => ?_
  refine gc_region ?_
  refine gl_op rfl rfl rfl (op_pure hT rfl) ?_
  refine gl_callf rfl rfl rfl rfl Tryd.func63 rfl rfl rfl (rdUint_calls gc _ A c l sk _ _ hS hr hb) ?_
  rintro _ w120 ⟨rfl, hS⟩
  refine ⟨_, rfl, ?_⟩
  have hU120 := rsU_ok l sk
  have hL := lvU (f := fun v b => dpNums3 l ⟨C, G, t9 - 1, M, 0, 0, 0⟩ s.a pk v b) hL
  generalize hq120 : rsU l sk = q at hS hL hU120 ⊢
  obtain ⟨pd, sd⟩ := q
  simp only at hS hL hU120 ⊢
  clear hq120
  refine gl_op rfl rfl rfl (op_fieldB 5 rfl Tryd.underlying29 rfl el3 rfl rfl) ?_
  refine gl_store 2 hS el3.cellsOf.1 el3.cellsOf.2 rfl rfl rfl rfl rfl rfl rfl rfl fun wambitref8_go_360 hS => ?_
  refine gl_nil ?_
  refine hK22 _ _ ?_
  clear hK22; try clear K22
  refine gc_seq fun K23 hK23 => ?_
  refine gc_region ?_
  refine gl_op rfl rfl rfl (op_pure hT rfl) ?_
  refine gl_callf rfl rfl rfl rfl Tryd.func63 rfl rfl rfl (rdUint_calls gc _ A c l sd _ _ hS hr hb) ?_
  rintro _ w123 ⟨rfl, hS⟩
  refine ⟨_, rfl, ?_⟩
  have hU123 := rsU_ok l sd
  have hL := lvU (f := fun v b => dpTail l ⟨C, G, t9 - 1, M, pk, pd, v⟩ s.a b) hL
  generalize hq123 : rsU l sd = q at hS hL hU123 ⊢
  obtain ⟨ps, se⟩ := q
  simp only at hS hL hU123 ⊢
  clear hq123
  refine gl_op rfl rfl rfl (op_fieldB 6 rfl Tryd.underlying29 rfl el3 rfl rfl) ?_
  refine gl_store 2 hS el3.cellsOf.1 el3.cellsOf.2 rfl rfl rfl rfl rfl rfl rfl rfl fun wambitref8_go_361 hS => ?_
  refine gl_nil ?_
  refine hK23 _ _ ?_
  clear hK23; try clear K23
  refine gc_cut (fun a' w' => ∃ (sf : RS), Fr 156 a' [(2, .pointer (some ⟨g2, 0, none⟩)), (5, .pointer (some ⟨gc, 0, none⟩)), (6, .pointer (some ⟨g6, 0, none⟩))] ∧ (sf.e = 0 → se.e = 0 ∧ 0 ≤ sf.a ∧ sf.a ≤ l.length ∧ l.length ≤ 1048576 ∧ C.length ≤ 256) ∧
  Lv l sf (match tlV l sf.a with | some x => .error x | none => .ok (⟨C, G, t9 - 1, M, pk, pd, ps⟩ : Px)) ∧ St w.heap.size w w' [.blk gc 116 (rsC A l.length c (sf)), .blk g2 29 zP, .blk g6 29 [.slice AC C.length cC, .slice AG i cG, .int .i64 (t9 - 1), .slice AM i2 cM, .int .i64 pk, .int .i64 pd, .int .i64 ps], .row AC cC 77 1 C.length (C.map uV), .row AG cG 26 1 i (S.map svV), .keep K wk, .row AM cM 26 1 i2 (S2.map svV), .keep K2 wk2]) ?_ ?_
  · skip
    refine gc_seq fun K24 hK24 => ?_
    refine gc_region ?_
    refine gl_op rfl rfl rfl (op_pure hT rfl) ?_
    refine gl_op rfl rfl rfl (op_pure hT rfl) ?_
    refine gl_op rfl rfl rfl (op_fieldB 2 rfl Tryd.underlying116 rfl el3 rfl rfl) ?_
    have hlve : se.e = 0 → 0 ≤ se.a ∧ se.a ≤ l.length ∧ l.length ≤ 1048576 ∧ C.length ≤ 256 := fun h => by
      have h1 := hU123.2.2.1 h
      have h2 := hU120.2.2.1 h1.1
      have h3 := hU117.2.2.1 h2.1
      have h4 := hlv1 h3.1
      omega
    refine gl_op rfl rfl rfl (op_loadB 0 hT hS rfl rfl rfl rfl rfl rfl) ?_
    refine gl_op rfl rfl rfl (op_pure hT rfl) ?_
    refine gl_nil ?_
    refine hK24 _ _ ?_
    clear hK24; try clear K24
    refine gc_cond rfl rfl (fun c129 => ?_) (fun c129 => ?_)
    · try simp only [decide_eq_true_eq, decide_eq_false_iff_not, Bool.not_eq_true', Bool.not_eq_false', Int.not_lt, Int.not_le, Nat.not_lt, Nat.not_le, Bool.true_eq, Bool.false_eq, reduceCtorEq] at c129
      refine gc_seq fun K25 hK25 => ?_
      refine gc_region ?_
      refine gl_op rfl rfl rfl (op_loadG 2 Tryd.underlying29 rfl el29 hS rfl rfl rfl rfl rfl) ?_
      refine gl_callf rfl rfl rfl rfl Tryd.func16 rfl rfl rfl (rCheckForm_calls (AC, C.length, cC) (AG, i, cG) (AM, i2, cM) S S2 (⟨C, G, t9 - 1, M, pk, pd, ps⟩ : Px) _ (ok := fun _ => True) (hPM pk pd ps hU117.1 hU117.2.1 hU120.1 hU120.2.1 hU123.1 hU123.2.1 (hlve (by omega)).2.2.2 hS fun _ _ _ _ => trivial)) ?_
      rintro _ w132 ⟨rfl, hb132⟩
      refine ⟨_, rfl, ?_⟩
      have hS := hS.grown hb132
      refine gl_op rfl rfl rfl (op_pure hT rfl) ?_
      refine gl_op rfl rfl rfl (op_pure hT rfl) ?_
      refine gl_op rfl rfl rfl (op_pure hT rfl) ?_
      refine gl_op rfl rfl rfl (op_pure hT rfl) ?_
      refine gl_op rfl rfl rfl (op_pure hT rfl) ?_
      refine gl_nil ?_
      refine hK25 _ _ ?_
      clear hK25; try clear K25
      refine gc_region ?_
      refine gl_op rfl rfl rfl (op_pure hT rfl) ?_
      refine gl_op rfl rfl rfl (op_pure hT rfl) ?_
      refine gl_op rfl rfl rfl (op_pure hT rfl) ?_
      refine gl_callf rfl rfl rfl rfl Tryd.func64 rfl rfl rfl (rdFail_calls gc _ A l.length c se (formV (⟨C, G, t9 - 1, M, pk, pd, ps⟩ : Px)).1 s.a _ _ hS) ?_
      rintro _ w138 ⟨rfl, hS⟩
      refine ⟨_, rfl, ?_⟩
      refine gl_nil ?_
      intro a' ha'
      first
        | exact ⟨se.fl (formV (⟨C, G, t9 - 1, M, pk, pd, ps⟩ : Px)).1 s.a, ha'.sub ⟨rfl, rfl, rfl, trivial⟩, (fun h => by have h7 := fl_live h; have h8 := hlve h7; rw [fl_a]; exact ⟨h7, h8⟩), (by rw [fl_a]; exact lvC hL), hS⟩
        | exact ⟨se, ha'.sub ⟨rfl, rfl, rfl, trivial⟩, (fun h => absurd h (by omega)), hL.dead (by omega), hS⟩
    · try simp only [decide_eq_true_eq, decide_eq_false_iff_not, Bool.not_eq_true', Bool.not_eq_false', Int.not_lt, Int.not_le, Nat.not_lt, Nat.not_le, Bool.true_eq, Bool.false_eq, reduceCtorEq] at c129
      refine gc_skip ?_
      intro a' ha'
      first
        | exact ⟨se.fl (formV (⟨C, G, t9 - 1, M, pk, pd, ps⟩ : Px)).1 s.a, ha'.sub ⟨rfl, rfl, rfl, trivial⟩, (fun h => by have h7 := fl_live h; have h8 := hlve h7; rw [fl_a]; exact ⟨h7, h8⟩), (by rw [fl_a]; exact lvC hL), hS⟩
        | exact ⟨se, ha'.sub ⟨rfl, rfl, rfl, trivial⟩, (fun h => absurd h (by omega)), hL.dead (by omega), hS⟩
  rintro a' w1 ⟨sf, hF, hlvf, hL, hS⟩
  refine gc_of hF ?_
  clear hF
  refine gc_seq fun K26 hK26 => ?_
  refine gc_region ?_
  refine gl_op rfl rfl rfl (op_pure hT rfl) ?_
  refine gl_callf rfl rfl rfl rfl Tryd.func65 rfl rfl rfl (rdFoot_calls gc _ A c l sf _ _ hS hr hc (fun h => (hlvf h).2.2.2.1) (fun h => ⟨(hlvf h).2.1, (hlvf h).2.2.1⟩)) ?_
  rintro _ w140 ⟨rfl, hS⟩
  refine ⟨_, rfl, ?_⟩
  have hL := lvT hL
  have hse : (rsT l sf).e = 0 → sf.e = 0 := rsT_live l sf
  generalize rsT l sf = sg at hS hL hse
  refine gl_nil ?_
  refine hK26 _ _ ?_
  clear hK26; try clear K26
  refine gc_seq fun K27 hK27 => ?_
  refine gc_seq fun K28 hK28 => ?_
  refine gc_region ?_
  refine gl_op rfl rfl rfl (op_pure hT rfl) ?_
  refine gl_op rfl rfl rfl (op_pure hT rfl) ?_
  refine gl_op rfl rfl rfl (op_fieldB 2 rfl Tryd.underlying116 rfl el3 rfl rfl) ?_
  refine gl_op rfl rfl rfl (op_loadB 0 hT hS rfl rfl rfl rfl rfl rfl) ?_
  refine gl_op rfl rfl rfl (op_pure hT rfl) ?_
  refine gl_nil ?_
  refine hK28 _ _ ?_
  clear hK28; try clear K28
  refine gc_cond rfl rfl (fun c145 => ?_) (fun c145 => ?_)
  · try simp only [decide_eq_true_eq, decide_eq_false_iff_not, Bool.not_eq_true', Bool.not_eq_false', Int.not_lt, Int.not_le, Nat.not_lt, Nat.not_le, Bool.true_eq, Bool.false_eq, reduceCtorEq] at c145
    refine gc_seq fun K29 hK29 => ?_
    refine gc_anyS (hS.blank 1) (by kernel_rfl) rfl fun nq30 hK => ?_
    have hS := hS.dr nq30
    refine ga_take 0 rfl rfl rfl rfl (by kernel_rfl) (fun _ _ _ _ h => h) hK (fun w1 hS => op_buildG rfl plan29 rfl rfl) ?_
    refine ga_take 1 rfl rfl rfl rfl (by kernel_rfl) (fun _ _ _ _ h => h) hK (fun w1 hS => op_pure hT rfl) ?_
    refine ga_take 2 rfl rfl rfl rfl (by kernel_rfl) (fun _ _ _ _ h => h) hK (fun w1 hS => op_pure hT rfl) ?_
    refine ga_take 3 rfl rfl rfl rfl (by kernel_rfl) (fun _ _ _ _ h => h) hK (fun w1 hS => op_fieldB 2 rfl Tryd.underlying116 rfl el3 rfl rfl) ?_
    refine ga_take 4 rfl rfl rfl rfl (by kernel_rfl) (fun _ _ _ _ h => h) hK (fun w1 hS => op_loadB 0 hT hS rfl rfl rfl rfl rfl rfl) ?_
    refine ga_take 5 rfl rfl rfl rfl (by kernel_rfl) (fun _ _ _ _ h => h) hK (fun w1 hS => op_pure hT rfl) ?_
    refine ga_take 6 rfl rfl rfl rfl (by kernel_rfl) (fun _ _ _ _ h => h) hK (fun w1 hS => op_pure hT rfl) ?_
    refine ga_take 7 rfl rfl rfl rfl (by kernel_rfl) (fun _ _ _ _ h => h) hK (fun w1 hS => op_fieldB 3 rfl Tryd.underlying116 rfl el3 rfl rfl) ?_
    refine ga_take 8 rfl rfl rfl rfl (by kernel_rfl) (fun _ _ _ _ h => h) hK (fun w1 hS => op_loadB 0 hT hS rfl rfl rfl rfl rfl rfl) ?_
    refine ga_one 9 (by kernel_rfl) rfl ?_
    refine gl_storeM 1 hS el29 rfl rfl rfl rfl rfl rfl rfl rfl rfl fun wambitref8_go_368 hS => ?_
    refine gl_nil ?_
    refine ga_next ((hS.blank 1).pre 8) fun hK => ?_
    refine ga_take 10 rfl rfl rfl rfl (by kernel_rfl) (fun _ _ _ _ h => h) hK (fun w1 hS => op_pure hT rfl) ?_
    refine ga_take 11 rfl rfl rfl rfl (by kernel_rfl) (fun _ _ _ _ h => h) hK (fun w1 hS => op_pure hT rfl) ?_
    refine ga_done (by kernel_rfl) ?_
    refine hK29 _ _ ?_
    clear hK29; try clear K29
    refine gc_ret ?_
    try simp only [x_then_ret, x_block_ret]
    refine gk_res3 rfl (⟨_, rfl, run_loadVarB 1 Tryd.underlying29 rfl el29 hS rfl rfl rfl⟩) (rfl) (rfl) ?_
    exact .inl ⟨sg.e, sg.i, hL.2 (by omega), rfl, hS.below⟩
  · try simp only [decide_eq_true_eq, decide_eq_false_iff_not, Bool.not_eq_true', Bool.not_eq_false', Int.not_lt, Int.not_le, Nat.not_lt, Nat.not_le, Bool.true_eq, Bool.false_eq, reduceCtorEq] at c145
    refine gc_skip ?_
    refine hK27 _ _ ?_
    clear hK27; try clear K27
    refine gc_seq fun K30 hK30 => ?_
    refine gc_region ?_
    refine gl_op rfl rfl rfl (op_loadG 2 Tryd.underlying29 rfl el29 hS rfl rfl rfl rfl rfl) ?_
    refine gl_storeM 1 hS el29 rfl rfl rfl rfl rfl rfl rfl rfl rfl fun wambitref8_go_370 hS => ?_
    refine gl_op rfl rfl rfl (op_pure hT rfl) ?_
    refine gl_op rfl rfl rfl (op_pure hT rfl) ?_
    refine gl_nil ?_
    refine hK30 _ _ ?_
    clear hK30; try clear K30
    refine gc_ret ?_
    try simp only [x_then_ret, x_block_ret]
    refine gk_res3 rfl (⟨_, rfl, run_loadVarB 1 Tryd.underlying29 rfl el29 hS rfl rfl rfl⟩) (rfl) (rfl) ?_
    have he0 : sg.e = 0 := by omega
    have hS : St w.heap.size w _ [.blk gc 116 (rsC A l.length c (sg)), .blk g2 29 (propC (AC, C.length, cC) (AG, i, cG) (AM, i2, cM) (⟨C, G, t9 - 1, M, pk, pd, ps⟩ : Px)), .blk g6 29 (propC (AC, C.length, cC) (AG, i, cG) (AM, i2, cM) (⟨C, G, t9 - 1, M, pk, pd, ps⟩ : Px)), .row AC cC 77 1 C.length (C.map uV), .row AG cG 26 1 i (S.map svV), .keep K wk, .row AM cM 26 1 i2 (S2.map svV), .keep K2 wk2] := hS
    refine .inr ⟨(⟨C, G, t9 - 1, M, pk, pd, ps⟩ : Px), (AC, C.length, cC), (AG, i, cG), (AM, i2, cM), S, S2, _, hL.1 he0, rfl, hS.keepAll, ?_⟩
    exact hPM pk pd ps hU117.1 hU117.2.1 hU120.1 hU120.2.1 hU123.1 hU123.2.1 (hlvf (hse he0)).2.2.2.2 hS fun x hx => keep_mem (.tail _ (.tail _ (.tail _ hx)))
end Go.Proofs.YtnomlloaahoceaaDoor

