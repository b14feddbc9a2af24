/- The walk of WireUnlike. No condition. -/
import Derived.Test.YtpeomdobcobdiaaDoorWC
namespace Go.Proofs.YtpeomdobcobdiaaDoor
open Go.RowKit
set_option linter.unusedVariables false
set_option linter.unusedSimpArgs false
theorem readsC_calls (t : Th) (hF : Fit t) (j : Nat) (A : Option Addr) (n c : Nat) (w : World) (hU : Tabs w) (hk : -9223372036854775808 ≤ t.k ∧ t.k ≤ 9223372036854775807) {ok : Nat → Prop} (h1 : RdE w ok uB A ((encT (t.k % 4) t).take j)) (hj : j < (encT (t.k % 4) t).length) (hn : n = j) (hc : j ≤ c) :
    Calls Tryd.prog 49 ⟨[.int .i64 t.k, .slice A n c, .int .i64 0]⟩ w fun e w' => ∃ x A' c', e = .returned (.tuple #[thV x A' c', .int .i64 0, .int .i64 10]) ∧
      Owns w' w.heap.size A' c' 5 1 x.b.length (x.b.map uB) ∧ Below w.heap.size w w' := by
  have hl : ((encT (t.k % 4) t).take j).length = j := by rw [List.length_take]; omega
  have he := encT_le (t.k % 4) t hF
  have h := readsN_calls t.k A n c ((encT (t.k % 4) t).take j) 0 w hU hk h1 (by omega) (by omega) (by omega) (by omega)
  have hcut := reads_cut (t.k % 4) t hF j hj
  refine h.mono fun e w' ⟨A', c', h1, h2, h3⟩ => ⟨_, A', c', ?_, h2, h3⟩
  rw [h1, show (readsV (t.k % 4) ((encT (t.k % 4) t).take j) 0).2.1 = 0 by rw [hcut], show (readsV (t.k % 4) ((encT (t.k % 4) t).take j) 0).2.2 = 10 by rw [hcut]]
set_option maxRecDepth 100000 in
theorem WireUnlike_calls (s t : Th) (As : Option Addr) (cs : Nat) (At : Option Addr) (ct : Nat) (cut : Int) (w : World) (hU : Tabs w)
    (hk : -9223372036854775808 ≤ s.k ∧ s.k ≤ 9223372036854775807) (hn : -9223372036854775808 ≤ s.n ∧ s.n ≤ 9223372036854775807) (hu : s.u < 18446744073709551616) (hs : s.s.size ≤ 4611686018427387904)
    (hn2 : -9223372036854775808 ≤ t.n ∧ t.n ≤ 9223372036854775807) (hu2 : t.u < 18446744073709551616) (hs2 : t.s.size ≤ 4611686018427387904) {ok0 ok1 : Nat → Prop}
    (h0 : RdE w ok0 uB As s.b) (hc0 : s.b.length ≤ cs) (h1 : RdE w ok1 uB At t.b) (hc1 : t.b.length ≤ ct) (hcut : -9223372036854775808 ≤ cut ∧ cut ≤ 9223372036854775807) :
    Calls Tryd.prog 14 ⟨[thV s As cs, thV t At ct, .int .i64 cut]⟩ w fun e w' => e = .returned (.bool true) ∧ Below w.heap.size w w' := by
  refine gc_enter (N := 100) Tryd.func14 rfl rfl rfl [(0, _), (1, _), (2, _)] rfl ?_
  have hS := St.start w
  refine gc_seq fun K1 hK1 => ?_
  refine gc_region ?_
  refine gl_box hS rfl rfl rfl rfl rfl fun g3 w3 hS => ?_
  refine gl_box hS rfl rfl rfl rfl rfl fun g4 w4 hS => ?_
  refine gl_op rfl rfl rfl (op_pure hT rfl) ?_
  refine gl_nil ?_
  refine hK1 _ _ ?_
  clear hK1; try clear K1
  refine gc_cut (fun a w' => Fr 100 a [(2, .int .i64 cut), (3, .pointer (some ⟨g3, 0, none⟩)), (4, .pointer (some ⟨g4, 0, none⟩))] ∧ St w.heap.size w w' [.blk g3 85 (thC (mend s) As cs), .blk g4 85 (thC (mend t) At ct)]) ?_ ?_
  · skip
    refine gc_anyS ((hS.blank 0).blank 1) (by kernel_rfl) rfl fun nq1 hK => ?_
    have hS := hS.dr nq1
    refine ga_two 0 2 (by kernel_rfl) rfl rfl ?_ ?_
    · skip
      refine gl_op rfl rfl rfl (op_loadG 0 Tryd.underlying85 rfl el85 hS rfl rfl rfl rfl rfl) ?_
      refine gl_nil ?_
      refine ga_next (((hS.blank 0).blank 1).pre 2) fun hK => ?_
      refine ga_two 1 2 (by kernel_rfl) rfl rfl ?_ ?_
      · skip
        refine gl_callf rfl rfl rfl rfl Tryd.func47 rfl rfl rfl (mended_calls s As cs _ (hU.old hS) hn hu hs hc0) ?_
        rintro _ w19 ⟨rfl, hb19⟩
        refine ⟨_, rfl, ?_⟩
        have hS := hS.grown hb19
        refine gl_nil ?_
        refine ga_next (((hS.blank 0).blank 1).pre 2) fun hK => ?_
        refine ga_one 2 (by kernel_rfl) rfl ?_
        refine gl_op rfl rfl rfl (op_loadG 1 Tryd.underlying85 rfl el85 hS rfl rfl rfl rfl rfl) ?_
        refine gl_nil ?_
        refine ga_next (((hS.blank 0).blank 1).pre 2) fun hK => ?_
        refine ga_one 3 (by kernel_rfl) rfl ?_
        refine gl_callf rfl rfl rfl rfl Tryd.func47 rfl rfl rfl (mended_calls t At ct _ (hU.old hS) hn2 hu2 hs2 hc1) ?_
        rintro _ w21 ⟨rfl, hb21⟩
        refine ⟨_, rfl, ?_⟩
        have hS := hS.grown hb21
        refine gl_nil ?_
        refine ga_next (((hS.blank 0).blank 1).pre 2) fun hK => ?_
        refine ga_one 4 (by kernel_rfl) rfl ?_
        refine gl_storeM 0 hS el85 rfl rfl rfl rfl rfl rfl rfl rfl rfl fun woutright_go_123 hS => ?_
        refine gl_nil ?_
        refine ga_next (((hS.blank 0).blank 1).pre 2) fun hK => ?_
        refine ga_one 5 (by kernel_rfl) rfl ?_
        refine gl_storeM 1 hS el85 rfl rfl rfl rfl rfl rfl rfl rfl rfl fun woutright_go_123 hS => ?_
        refine gl_nil ?_
        refine ga_next (((hS.blank 0).blank 1).pre 2) fun hK => ?_
        refine ga_done (by kernel_rfl) ?_
        intro a ha; exact ⟨ha.sub ⟨rfl, rfl, rfl, trivial⟩, hS⟩
      · skip
        refine gl_op rfl rfl rfl (op_loadG 1 Tryd.underlying85 rfl el85 hS rfl rfl rfl rfl rfl) ?_
        refine gl_nil ?_
        refine ga_next (((hS.blank 0).blank 1).pre 2) fun hK => ?_
        refine ga_one 1 (by kernel_rfl) rfl ?_
        refine gl_callf rfl rfl rfl rfl Tryd.func47 rfl rfl rfl (mended_calls s As cs _ (hU.old hS) hn hu hs hc0) ?_
        rintro _ w19 ⟨rfl, hb19⟩
        refine ⟨_, rfl, ?_⟩
        have hS := hS.grown hb19
        refine gl_nil ?_
        refine ga_next (((hS.blank 0).blank 1).pre 2) fun hK => ?_
        refine ga_one 3 (by kernel_rfl) rfl ?_
        refine gl_callf rfl rfl rfl rfl Tryd.func47 rfl rfl rfl (mended_calls t At ct _ (hU.old hS) hn2 hu2 hs2 hc1) ?_
        rintro _ w21 ⟨rfl, hb21⟩
        refine ⟨_, rfl, ?_⟩
        have hS := hS.grown hb21
        refine gl_nil ?_
        refine ga_next (((hS.blank 0).blank 1).pre 2) fun hK => ?_
        refine ga_one 4 (by kernel_rfl) rfl ?_
        refine gl_storeM 0 hS el85 rfl rfl rfl rfl rfl rfl rfl rfl rfl fun woutright_go_123 hS => ?_
        refine gl_nil ?_
        refine ga_next (((hS.blank 0).blank 1).pre 2) fun hK => ?_
        refine ga_one 5 (by kernel_rfl) rfl ?_
        refine gl_storeM 1 hS el85 rfl rfl rfl rfl rfl rfl rfl rfl rfl fun woutright_go_123 hS => ?_
        refine gl_nil ?_
        refine ga_next (((hS.blank 0).blank 1).pre 2) fun hK => ?_
        refine ga_done (by kernel_rfl) ?_
        intro a ha; exact ⟨ha.sub ⟨rfl, rfl, rfl, trivial⟩, hS⟩
    · skip
      refine gl_op rfl rfl rfl (op_loadG 1 Tryd.underlying85 rfl el85 hS rfl rfl rfl rfl rfl) ?_
      refine gl_nil ?_
      refine ga_next (((hS.blank 0).blank 1).pre 2) fun hK => ?_
      refine ga_one 0 (by kernel_rfl) rfl ?_
      refine gl_op rfl rfl rfl (op_loadG 0 Tryd.underlying85 rfl el85 hS rfl rfl rfl rfl rfl) ?_
      refine gl_nil ?_
      refine ga_next (((hS.blank 0).blank 1).pre 2) fun hK => ?_
      refine ga_one 1 (by kernel_rfl) rfl ?_
      refine gl_callf rfl rfl rfl rfl Tryd.func47 rfl rfl rfl (mended_calls s As cs _ (hU.old hS) hn hu hs hc0) ?_
      rintro _ w19 ⟨rfl, hb19⟩
      refine ⟨_, rfl, ?_⟩
      have hS := hS.grown hb19
      refine gl_nil ?_
      refine ga_next (((hS.blank 0).blank 1).pre 2) fun hK => ?_
      refine ga_one 3 (by kernel_rfl) rfl ?_
      refine gl_callf rfl rfl rfl rfl Tryd.func47 rfl rfl rfl (mended_calls t At ct _ (hU.old hS) hn2 hu2 hs2 hc1) ?_
      rintro _ w21 ⟨rfl, hb21⟩
      refine ⟨_, rfl, ?_⟩
      have hS := hS.grown hb21
      refine gl_nil ?_
      refine ga_next (((hS.blank 0).blank 1).pre 2) fun hK => ?_
      refine ga_one 4 (by kernel_rfl) rfl ?_
      refine gl_storeM 0 hS el85 rfl rfl rfl rfl rfl rfl rfl rfl rfl fun woutright_go_123 hS => ?_
      refine gl_nil ?_
      refine ga_next (((hS.blank 0).blank 1).pre 2) fun hK => ?_
      refine ga_one 5 (by kernel_rfl) rfl ?_
      refine gl_storeM 1 hS el85 rfl rfl rfl rfl rfl rfl rfl rfl rfl fun woutright_go_123 hS => ?_
      refine gl_nil ?_
      refine ga_next (((hS.blank 0).blank 1).pre 2) fun hK => ?_
      refine ga_done (by kernel_rfl) ?_
      intro a ha; exact ⟨ha.sub ⟨rfl, rfl, rfl, trivial⟩, hS⟩
  rintro a w1 ⟨hF, hS⟩
  refine gc_of hF ?_
  clear hF
  have hF := mend_fit s hn hu
  have hF2 := mend_fit t hn2 hu2
  have hk : -9223372036854775808 ≤ (mend s).k ∧ (mend s).k ≤ 9223372036854775807 := hk
  have h0 : RdE w ok0 uB As (mend s).b := h0.take 3000
  have h1 : RdE w ok1 uB At (mend t).b := h1.take 3000
  generalize mend s = m at hS hF hk h0
  generalize mend t = n at hS hF2 h1
  refine gc_cut (fun a w' => Fr 100 a [(2, .int .i64 cut), (3, .pointer (some ⟨g3, 0, none⟩)), (4, .pointer (some ⟨g4, 0, none⟩))] ∧ St w.heap.size w w' [.blk g3 85 (thC m As cs), .blk g4 85 (thC { n with k := m.k } At ct)]) ?_ ?_
  · skip
    refine gc_region ?_
    refine gl_op rfl rfl rfl (op_fieldB 0 rfl Tryd.underlying85 rfl el3 rfl rfl) ?_
    refine gl_op rfl rfl rfl (op_loadB 0 hT hS rfl rfl rfl rfl rfl rfl) ?_
    refine gl_op rfl rfl rfl (op_fieldB 0 rfl Tryd.underlying85 rfl el3 rfl rfl) ?_
    refine gl_store 1 hS el3.cellsOf.1 el3.cellsOf.2 rfl rfl rfl rfl rfl rfl rfl rfl fun woutright_go_124 hS => ?_
    refine gl_nil ?_
    intro a ha; exact ⟨ha.sub ⟨rfl, rfl, rfl, trivial⟩, hS⟩
  rintro a w1 ⟨hF3, hS⟩
  refine gc_of hF3 ?_
  clear hF3
  obtain ⟨p, hp⟩ : ∃ p, p = { n with k := m.k } := ⟨_, rfl⟩
  rw [← hp] at hS
  have hF2 : Fit p := by rw [hp]; exact ⟨hF2.1, hF2.2, hF2.3, hF2.4, hF2.5, hF2.6, hF2.7⟩
  have hpk : p.k = m.k := by rw [hp]
  have h1 : RdE w ok1 uB At p.b := by rw [hp]; exact h1
  have hkp : -9223372036854775808 ≤ p.k ∧ p.k ≤ 9223372036854775807 := by rw [hpk]; exact hk
  clear hp
  have he1 := encT_pos (m.k % 4) m
  have he2 := encT_le (m.k % 4) m hF
  have hg1 := encT_pos (m.k % 4) p
  have hg2 := encT_le (m.k % 4) p hF2
  have hlaw := unlike_law (m.k % 4) m p hF hF2
  refine gc_seq fun K2 hK2 => ?_
  refine gc_region ?_
  refine gl_op rfl rfl rfl (op_loadG 0 Tryd.underlying85 rfl el85 hS rfl rfl rfl rfl rfl) ?_
  refine gl_callf rfl rfl rfl rfl Tryd.func48 rfl rfl rfl (wroteF_calls m As cs _ (hU.old hS) hk hF (h0.old hS)) ?_
  rintro _ w27 ⟨A27, c27, rfl, hr27, hb27⟩
  refine ⟨_, rfl, ?_⟩
  have hS := hS.addRow hb27 hr27
  refine gl_op rfl rfl rfl (op_pure hT rfl) ?_
  refine gl_op rfl rfl rfl (op_pure hT rfl) ?_
  refine gl_op rfl rfl rfl (op_pure hT rfl) ?_
  refine gl_op rfl rfl rfl (op_pure hT rfl) ?_
  refine gl_op rfl rfl rfl (op_pure hT rfl) ?_
  refine gl_nil ?_
  refine hK2 _ _ ?_
  clear hK2; try clear K2
  refine gc_seq fun K3 hK3 => ?_
  refine gc_region ?_
  refine gl_op rfl rfl rfl (op_loadG 1 Tryd.underlying85 rfl el85 hS rfl rfl rfl rfl rfl) ?_
  refine gl_callf rfl rfl rfl rfl Tryd.func48 rfl rfl rfl (wroteF_calls p At ct _ (hU.old hS) hkp hF2 (h1.old hS)) ?_
  rintro _ w32 ⟨A32, c32, rfl, hr32, hb32⟩
  refine ⟨_, rfl, ?_⟩
  rw [hpk] at hr32 ⊢; have hS := hS.addRow hb32 hr32
  refine gl_op rfl rfl rfl (op_pure hT rfl) ?_
  refine gl_op rfl rfl rfl (op_pure hT rfl) ?_
  refine gl_op rfl rfl rfl (op_pure hT rfl) ?_
  refine gl_op rfl rfl rfl (op_pure hT rfl) ?_
  refine gl_op rfl rfl rfl (op_pure hT rfl) ?_
  refine gl_nil ?_
  refine hK3 _ _ ?_
  clear hK3; try clear K3
  refine gc_seq fun K4 hK4 => ?_
  refine gc_seq fun K5 hK5 => ?_
  refine gc_region ?_
  refine gl_op rfl rfl rfl (op_pure hT rfl) ?_
  refine gl_op rfl rfl rfl (op_pure hT rfl) ?_
  refine gl_op rfl rfl rfl (op_pure hT rfl) ?_
  refine gl_un rfl rfl rfl rfl ?_
  refine gl_op rfl rfl rfl (op_pure hT rfl) ?_
  refine gl_un rfl rfl rfl rfl ?_
  refine gl_op rfl rfl rfl (op_pure hT rfl) ?_
  refine gl_op rfl rfl rfl (op_pure hT rfl) ?_
  refine gl_op rfl rfl rfl (op_pure hT rfl) ?_
  refine gl_un rfl rfl rfl rfl ?_
  refine gl_callf rfl rfl rfl rfl Tryd.func15 rfl rfl rfl (told_calls _ (hU.old hS)) ?_
  rintro _ w42 ⟨rfl, hb42⟩
  refine ⟨_, rfl, ?_⟩
  have hS := hS.grown hb42
  refine gl_un rfl rfl rfl rfl ?_
  refine gl_op rfl rfl rfl (op_pure hT rfl) ?_
  refine gl_op rfl rfl rfl (op_pure hT rfl) ?_
  refine gl_nil ?_
  refine hK5 _ _ ?_
  clear hK5; try clear K5
  refine gc_cond_f rfl ?_
  refine gc_skip ?_
  refine hK4 _ _ ?_
  clear hK4; try clear K4
  refine gc_seq fun K6 hK6 => ?_
  refine gc_region ?_
  refine gl_op rfl rfl rfl (op_pure hT rfl) ?_
  refine gl_op rfl rfl rfl (op_pure hT rfl) ?_
  refine gl_op rfl rfl rfl (op_pure hT rfl) ?_
  refine gl_op rfl rfl rfl (op_pure hT rfl) ?_
  refine gl_op rfl rfl rfl (op_min2 rfl rfl rfl) ?_
  refine gl_spell 49 (v := .int .i64 (min (encT (m.k % 4) m).length (encT (m.k % 4) p).length : Nat)) rfl (by congr 1; split <;> omega) ?_
  have hcA := (hS.cap (i := 2) rfl).1
  have hcB := (hS.cap (i := 3) rfl).1
  obtain ⟨mn, hmn⟩ : ∃ mn, mn = min (encT (m.k % 4) m).length (encT (m.k % 4) p).length := ⟨_, rfl⟩
  rw [← hmn] at hlaw ⊢
  refine gl_op rfl rfl rfl (op_pure hT rfl) ?_
  refine gl_nil ?_
  refine hK6 _ _ ?_
  clear hK6; try clear K6
  refine gc_cut (fun a w' => Fr 100 a [(2, .int .i64 cut), (3, .pointer (some ⟨g3, 0, none⟩)), (4, .pointer (some ⟨g4, 0, none⟩)), (7, .slice A27 (encT (m.k % 4) m).length c27)] ∧ St w.heap.size w w' [.blk g3 85 (thC m As cs), .blk g4 85 (thC p At ct), .row A27 c27 5 1 (encT (m.k % 4) m).length ((encT (m.k % 4) m).map uB)]) ?_ ?_
  · skip
    refine gc_seq fun K7 hK7 => ?_
    refine gc_anyS hS (by kernel_rfl) rfl fun nq8 hK => ?_
    have hS := hS.dr nq8
    refine ga_take 0 rfl rfl rfl rfl (by kernel_rfl) (fun _ _ _ _ _ h => h) hK (fun w1 hS => op_pure hT rfl) ?_
    refine ga_take 1 rfl rfl rfl rfl (by kernel_rfl) (fun _ _ _ _ _ h => h) hK (fun w1 hS => op_pure hT rfl) ?_
    refine ga_take 2 rfl rfl rfl rfl (by kernel_rfl) (fun _ _ _ _ _ h => h) hK (fun w1 hS => op_slice_h hT el5 rfl rfl rfl rfl (by omega) (by omega)) ?_
    refine ga_take 3 rfl rfl rfl rfl (by kernel_rfl) (fun _ _ _ _ _ h => h) hK (fun w1 hS => op_pure hT rfl) ?_
    refine ga_take 4 rfl rfl rfl rfl (by kernel_rfl) (fun _ _ _ _ _ h => h) hK (fun w1 hS => op_pure hT rfl) ?_
    refine ga_take 5 rfl rfl rfl rfl (by kernel_rfl) (fun _ _ _ _ _ h => h) hK (fun w1 hS => op_slice_h hT el5 rfl rfl rfl rfl (by omega) (by omega)) ?_
    refine ga_take 7 rfl rfl rfl rfl (by kernel_rfl) (fun _ _ _ _ _ h => h) hK (fun w1 hS => op_loadG 0 Tryd.underlying85 rfl el85 hS rfl rfl rfl rfl rfl) ?_
    refine ga_take 8 rfl rfl rfl rfl (by kernel_rfl) (fun _ _ _ _ _ h => h) hK (fun w1 hS => op_loadG 1 Tryd.underlying85 rfl el85 hS rfl rfl rfl rfl rfl) ?_
    refine ga_one 6 (by kernel_rfl) rfl ?_
    refine gl_callf rfl rfl rfl rfl Tryd.func18 rfl rfl rfl (SameN_calls _ _ _ _ _ _ ((encT (m.k % 4) m).take mn) ((encT (m.k % 4) p).take mn) _ ((hS.rdE (i := 2) rfl).take mn) ((hS.rdE (i := 3) rfl).take mn) (by rw [List.length_take]; omega) (by rw [List.length_take]; omega) (by rw [List.length_take]; omega)) ?_
    rintro _ _ ⟨rfl, n56, rfl⟩
    refine ⟨_, rfl, ?_⟩
    have hS := hS.dr n56
    refine gl_nil ?_
    refine ga_next (hS.pre 4) fun hK => ?_
    refine ga_one 9 (by kernel_rfl) rfl ?_
    refine gl_callf rfl rfl rfl rfl Tryd.func50 rfl rfl rfl (alike_calls m p As At cs ct _ hk (h0.old hS) (h1.old hS) (by have := hF.b0; omega)) ?_
    rintro _ w59 ⟨rfl, hb59⟩
    refine ⟨_, rfl, ?_⟩
    have hS := hS.grown hb59
    refine gl_nil ?_
    refine ga_next (hS.pre 4) fun hK => ?_
    refine ga_take 10 rfl rfl rfl rfl (by kernel_rfl) (fun _ _ _ _ _ h => h) hK (fun w1 hS => op_pure hT rfl) ?_
    refine ga_spell 60 (v := .bool false) rfl (by rw [hlaw]; simp) ?_
    refine ga_done (by kernel_rfl) ?_
    refine hK7 _ _ ?_
    clear hK7; try clear K7
    refine gc_cond_f rfl ?_
    refine gc_skip ?_
    intro a ha; exact ⟨ha.sub ⟨rfl, rfl, rfl, rfl, trivial⟩, hS.pre 3⟩
  rintro a w2 ⟨hF3, hS⟩
  refine gc_of hF3 ?_
  clear hF3
  have hr0 := Int.emod_nonneg cut (show (((encT (m.k % 4) m).length : Nat) : Int) ≠ 0 by omega)
  have hr1 := Int.emod_lt_of_pos cut (show (0 : Int) < ((encT (m.k % 4) m).length : Nat) by omega)
  obtain ⟨j, hj⟩ : ∃ j : Nat, cut % ((encT (m.k % 4) m).length : Nat) = j := ⟨(cut % ((encT (m.k % 4) m).length : Nat)).toNat, by omega⟩
  have hjl : j < (encT (m.k % 4) m).length := by omega
  refine gc_cut (fun a w' => Fr 100 a [(3, .pointer (some ⟨g3, 0, none⟩)), (4, .pointer (some ⟨g4, 0, none⟩)), (7, .slice A27 (encT (m.k % 4) m).length c27), (13, .int .i64 0), (14, .int .i64 10)] ∧ St w.heap.size w w' [.blk g3 85 (thC m As cs), .blk g4 85 (thC p At ct), .row A27 c27 5 1 (encT (m.k % 4) m).length ((encT (m.k % 4) m).map uB)]) ?_ ?_
  · skip
    refine gc_anyS hS (by kernel_rfl) rfl fun nq10 hK => ?_
    have hS := hS.dr nq10
    refine ga_take 0 rfl rfl rfl rfl (by kernel_rfl) (fun _ _ _ _ _ h => h) hK (fun w1 hS => op_fieldB 0 rfl Tryd.underlying85 rfl el3 rfl rfl) ?_
    refine ga_take 1 rfl rfl rfl rfl (by kernel_rfl) (fun _ _ _ _ _ h => h) hK (fun w1 hS => op_loadB 0 hT hS rfl rfl rfl rfl rfl rfl) ?_
    refine ga_take 2 rfl rfl rfl rfl (by kernel_rfl) (fun _ _ _ _ _ h => h) hK (fun w1 hS => op_pure hT rfl) ?_
    refine ga_take 3 rfl rfl rfl rfl (by kernel_rfl) (fun _ _ _ _ _ h => h) hK (fun w1 hS => op_pure hT rfl) ?_
    refine ga_take 4 rfl rfl rfl rfl (by kernel_rfl) (fun _ _ _ _ _ h => h) hK (fun w1 hS => op_pure hT rfl) ?_
    refine ga_take 5 rfl rfl rfl rfl (by kernel_rfl) (fun _ _ _ _ _ h => h) hK (fun w1 hS => op_pure hT rfl) ?_
    refine ga_two 6 13 (by kernel_rfl) rfl rfl ?_ ?_
    · skip
      refine gl_callf rfl rfl rfl rfl Tryd.func26 rfl rfl rfl (Spot_calls cut _ hcut ⟨by omega, by omega⟩ _) ?_
      rintro _ _ ⟨rfl, rfl⟩
      refine ⟨_, rfl, ?_⟩
      rw [if_neg (by omega), hj]
      refine gl_nil ?_
      refine ga_next (hS.pre 3) fun hK => ?_
      refine ga_take 7 rfl rfl rfl rfl (by kernel_rfl) (fun _ _ _ _ _ h => h) hK (fun w1 hS => op_slice_h hT el5 rfl rfl rfl rfl (by omega) (by have := (hS.cap (i := 2) rfl).1; omega)) ?_
      refine ga_two 8 13 (by kernel_rfl) rfl rfl ?_ ?_
      · skip
        refine gl_callf rfl rfl rfl rfl Tryd.func49 rfl rfl rfl (readsC_calls m hF j A27 j c27 _ (hU.old hS) hk ((hS.rdE (i := 2) rfl).take j) hjl rfl (by have := (hS.cap (i := 2) rfl).1; omega)) ?_
        rintro _ w70 ⟨x70, A70, c70, rfl, hr70, hb70⟩
        refine ⟨_, rfl, ?_⟩
        have hS := hS.addRow hb70 hr70
        refine gl_nil ?_
        refine ga_next (hS.pre 3) fun hK => ?_
        refine ga_take 9 rfl rfl rfl rfl (by kernel_rfl) (fun _ _ _ _ _ h => h) hK (fun w1 hS => op_pure hT rfl) ?_
        refine ga_take 10 rfl rfl rfl rfl (by kernel_rfl) (fun _ _ _ _ _ h => h) hK (fun w1 hS => op_pure hT rfl) ?_
        refine ga_take 11 rfl rfl rfl rfl (by kernel_rfl) (fun _ _ _ _ _ h => h) hK (fun w1 hS => op_pure hT rfl) ?_
        refine ga_take 12 rfl rfl rfl rfl (by kernel_rfl) (fun _ _ _ _ _ h => h) hK (fun w1 hS => op_pure hT rfl) ?_
        refine ga_one 13 (by kernel_rfl) rfl ?_
        refine gl_alloc el85 hS rfl rfl rfl rfl fun g12 w12 hS => ?_
        refine gl_nil ?_
        refine ga_next (hS.pre 3) fun hK => ?_
        refine ga_one 14 (by kernel_rfl) rfl ?_
        refine gl_storeM 4 hS el85 rfl rfl rfl rfl rfl rfl rfl rfl rfl fun woutright_go_134 hS => ?_
        refine gl_nil ?_
        refine ga_next (hS.pre 3) fun hK => ?_
        refine ga_take 15 rfl rfl rfl rfl (by kernel_rfl) (fun _ _ _ _ _ h => h) hK (fun w1 hS => op_pure hT rfl) ?_
        refine ga_take 16 rfl rfl rfl rfl (by kernel_rfl) (fun _ _ _ _ _ h => h) hK (fun w1 hS => op_pure hT rfl) ?_
        refine ga_done (by kernel_rfl) ?_
        intro a ha; exact ⟨ha.sub ⟨rfl, rfl, rfl, rfl, rfl, trivial⟩, hS.pre 3⟩
      · skip
        refine gl_alloc el85 hS rfl rfl rfl rfl fun g12 w12 hS => ?_
        refine gl_nil ?_
        refine ga_next (hS.pre 3) fun hK => ?_
        refine ga_one 8 (by kernel_rfl) rfl ?_
        refine gl_callf rfl rfl rfl rfl Tryd.func49 rfl rfl rfl (readsC_calls m hF j A27 j c27 _ (hU.old hS) hk ((hS.rdE (i := 2) rfl).take j) hjl rfl (by have := (hS.cap (i := 2) rfl).1; omega)) ?_
        rintro _ w70 ⟨x70, A70, c70, rfl, hr70, hb70⟩
        refine ⟨_, rfl, ?_⟩
        have hS := hS.addRow hb70 hr70
        refine gl_nil ?_
        refine ga_next (hS.pre 3) fun hK => ?_
        refine ga_take 9 rfl rfl rfl rfl (by kernel_rfl) (fun _ _ _ _ _ h => h) hK (fun w1 hS => op_pure hT rfl) ?_
        refine ga_take 10 rfl rfl rfl rfl (by kernel_rfl) (fun _ _ _ _ _ h => h) hK (fun w1 hS => op_pure hT rfl) ?_
        refine ga_take 11 rfl rfl rfl rfl (by kernel_rfl) (fun _ _ _ _ _ h => h) hK (fun w1 hS => op_pure hT rfl) ?_
        refine ga_take 12 rfl rfl rfl rfl (by kernel_rfl) (fun _ _ _ _ _ h => h) hK (fun w1 hS => op_pure hT rfl) ?_
        refine ga_one 14 (by kernel_rfl) rfl ?_
        refine gl_storeM 3 hS el85 rfl rfl rfl rfl rfl rfl rfl rfl rfl fun woutright_go_134 hS => ?_
        refine gl_nil ?_
        refine ga_next (hS.pre 3) fun hK => ?_
        refine ga_take 15 rfl rfl rfl rfl (by kernel_rfl) (fun _ _ _ _ _ h => h) hK (fun w1 hS => op_pure hT rfl) ?_
        refine ga_take 16 rfl rfl rfl rfl (by kernel_rfl) (fun _ _ _ _ _ h => h) hK (fun w1 hS => op_pure hT rfl) ?_
        refine ga_done (by kernel_rfl) ?_
        intro a ha; exact ⟨ha.sub ⟨rfl, rfl, rfl, rfl, rfl, trivial⟩, hS.pre 3⟩
    · skip
      refine gl_alloc el85 hS rfl rfl rfl rfl fun g12 w12 hS => ?_
      refine gl_nil ?_
      refine ga_next (hS.pre 3) fun hK => ?_
      refine ga_one 6 (by kernel_rfl) rfl ?_
      refine gl_callf rfl rfl rfl rfl Tryd.func26 rfl rfl rfl (Spot_calls cut _ hcut ⟨by omega, by omega⟩ _) ?_
      rintro _ _ ⟨rfl, rfl⟩
      refine ⟨_, rfl, ?_⟩
      rw [if_neg (by omega), hj]
      refine gl_nil ?_
      refine ga_next (hS.pre 3) fun hK => ?_
      refine ga_take 7 rfl rfl rfl rfl (by kernel_rfl) (fun _ _ _ _ _ h => h) hK (fun w1 hS => op_slice_h hT el5 rfl rfl rfl rfl (by omega) (by have := (hS.cap (i := 2) rfl).1; omega)) ?_
      refine ga_one 8 (by kernel_rfl) rfl ?_
      refine gl_callf rfl rfl rfl rfl Tryd.func49 rfl rfl rfl (readsC_calls m hF j A27 j c27 _ (hU.old hS) hk ((hS.rdE (i := 2) rfl).take j) hjl rfl (by have := (hS.cap (i := 2) rfl).1; omega)) ?_
      rintro _ w70 ⟨x70, A70, c70, rfl, hr70, hb70⟩
      refine ⟨_, rfl, ?_⟩
      have hS := hS.addRow hb70 hr70
      refine gl_nil ?_
      refine ga_next (hS.pre 3) fun hK => ?_
      refine ga_take 9 rfl rfl rfl rfl (by kernel_rfl) (fun _ _ _ _ _ h => h) hK (fun w1 hS => op_pure hT rfl) ?_
      refine ga_take 10 rfl rfl rfl rfl (by kernel_rfl) (fun _ _ _ _ _ h => h) hK (fun w1 hS => op_pure hT rfl) ?_
      refine ga_take 11 rfl rfl rfl rfl (by kernel_rfl) (fun _ _ _ _ _ h => h) hK (fun w1 hS => op_pure hT rfl) ?_
      refine ga_take 12 rfl rfl rfl rfl (by kernel_rfl) (fun _ _ _ _ _ h => h) hK (fun w1 hS => op_pure hT rfl) ?_
      refine ga_one 14 (by kernel_rfl) rfl ?_
      refine gl_storeM 3 hS el85 rfl rfl rfl rfl rfl rfl rfl rfl rfl fun woutright_go_134 hS => ?_
      refine gl_nil ?_
      refine ga_next (hS.pre 3) fun hK => ?_
      refine ga_take 15 rfl rfl rfl rfl (by kernel_rfl) (fun _ _ _ _ _ h => h) hK (fun w1 hS => op_pure hT rfl) ?_
      refine ga_take 16 rfl rfl rfl rfl (by kernel_rfl) (fun _ _ _ _ _ h => h) hK (fun w1 hS => op_pure hT rfl) ?_
      refine ga_done (by kernel_rfl) ?_
      intro a ha; exact ⟨ha.sub ⟨rfl, rfl, rfl, rfl, rfl, trivial⟩, hS.pre 3⟩
  rintro a w3 ⟨hF3, hS⟩
  refine gc_of hF3 ?_
  clear hF3
  obtain ⟨i, hi⟩ : ∃ i : Nat, (encT (m.k % 4) m).length = i + 1 := ⟨(encT (m.k % 4) m).length - 1, by omega⟩
  refine gc_cut (fun a w' => Fr 100 a [(13, .int .i64 0), (14, .int .i64 10), (16, .int .i64 0), (17, .int .i64 10)] ∧ St w.heap.size w w' []) ?_ ?_
  · skip
    refine gc_anyS hS (by kernel_rfl) rfl fun nq11 hK => ?_
    have hS := hS.dr nq11
    refine ga_take 0 rfl rfl rfl rfl (by kernel_rfl) (fun _ _ _ _ _ h => h) hK (fun w1 hS => op_fieldB 0 rfl Tryd.underlying85 rfl el3 rfl rfl) ?_
    refine ga_take 1 rfl rfl rfl rfl (by kernel_rfl) (fun _ _ _ _ _ h => h) hK (fun w1 hS => op_loadB 0 hT hS rfl rfl rfl rfl rfl rfl) ?_
    refine ga_take 2 rfl rfl rfl rfl (by kernel_rfl) (fun _ _ _ _ _ h => h) hK (fun w1 hS => op_pure hT rfl) ?_
    refine ga_take 3 rfl rfl rfl rfl (by kernel_rfl) (fun _ _ _ _ _ h => h) hK (fun w1 hS => op_pure hT rfl) ?_
    refine ga_take 4 rfl rfl rfl rfl (by kernel_rfl) (fun _ _ _ _ _ h => h) hK (fun w1 hS => op_pure hT rfl) ?_
    refine ga_take 5 rfl rfl rfl rfl (by kernel_rfl) (fun _ _ _ _ _ h => h) hK (fun w1 hS => (by first | exact op_fit hT rfl (by omega) | exact op_pure hT rfl)) ?_
    refine ga_spell 80 (v := .int .i64 (i : Nat)) rfl (by congr 1; omega) ?_
    refine ga_take 6 rfl rfl rfl rfl (by kernel_rfl) (fun _ _ _ _ _ h => h) hK (fun w1 hS => op_slice_h hT el5 rfl rfl rfl rfl (by omega) (by have := (hS.cap (i := 2) rfl).1; omega)) ?_
    refine ga_two 7 12 (by kernel_rfl) rfl rfl ?_ ?_
    · skip
      refine gl_callf rfl rfl rfl rfl Tryd.func49 rfl rfl rfl (readsC_calls m hF i A27 i c27 _ (hU.old hS) hk ((hS.rdE (i := 2) rfl).take i) (by omega) rfl (by have := (hS.cap (i := 2) rfl).1; omega)) ?_
      rintro _ w82 ⟨x82, A82, c82, rfl, hr82, hb82⟩
      refine ⟨_, rfl, ?_⟩
      have hS := hS.addRow hb82 hr82
      refine gl_nil ?_
      refine ga_next (hS.pre 3) fun hK => ?_
      refine ga_take 8 rfl rfl rfl rfl (by kernel_rfl) (fun _ _ _ _ _ h => h) hK (fun w1 hS => op_pure hT rfl) ?_
      refine ga_take 9 rfl rfl rfl rfl (by kernel_rfl) (fun _ _ _ _ _ h => h) hK (fun w1 hS => op_pure hT rfl) ?_
      refine ga_take 10 rfl rfl rfl rfl (by kernel_rfl) (fun _ _ _ _ _ h => h) hK (fun w1 hS => op_pure hT rfl) ?_
      refine ga_take 11 rfl rfl rfl rfl (by kernel_rfl) (fun _ _ _ _ _ h => h) hK (fun w1 hS => op_pure hT rfl) ?_
      refine ga_one 12 (by kernel_rfl) rfl ?_
      refine gl_alloc el85 hS rfl rfl rfl rfl fun g15 w15 hS => ?_
      refine gl_nil ?_
      refine ga_next (hS.pre 3) fun hK => ?_
      refine ga_one 13 (by kernel_rfl) rfl ?_
      refine gl_storeM 4 hS el85 rfl rfl rfl rfl rfl rfl rfl rfl rfl fun woutright_go_135 hS => ?_
      refine gl_nil ?_
      refine ga_next (hS.pre 3) fun hK => ?_
      refine ga_take 14 rfl rfl rfl rfl (by kernel_rfl) (fun _ _ _ _ _ h => h) hK (fun w1 hS => op_pure hT rfl) ?_
      refine ga_take 15 rfl rfl rfl rfl (by kernel_rfl) (fun _ _ _ _ _ h => h) hK (fun w1 hS => op_pure hT rfl) ?_
      refine ga_done (by kernel_rfl) ?_
      intro a ha; exact ⟨ha.sub ⟨rfl, rfl, rfl, rfl, trivial⟩, hS.pre 0⟩
    · skip
      refine gl_alloc el85 hS rfl rfl rfl rfl fun g15 w15 hS => ?_
      refine gl_nil ?_
      refine ga_next (hS.pre 3) fun hK => ?_
      refine ga_one 7 (by kernel_rfl) rfl ?_
      refine gl_callf rfl rfl rfl rfl Tryd.func49 rfl rfl rfl (readsC_calls m hF i A27 i c27 _ (hU.old hS) hk ((hS.rdE (i := 2) rfl).take i) (by omega) rfl (by have := (hS.cap (i := 2) rfl).1; omega)) ?_
      rintro _ w82 ⟨x82, A82, c82, rfl, hr82, hb82⟩
      refine ⟨_, rfl, ?_⟩
      have hS := hS.addRow hb82 hr82
      refine gl_nil ?_
      refine ga_next (hS.pre 3) fun hK => ?_
      refine ga_take 8 rfl rfl rfl rfl (by kernel_rfl) (fun _ _ _ _ _ h => h) hK (fun w1 hS => op_pure hT rfl) ?_
      refine ga_take 9 rfl rfl rfl rfl (by kernel_rfl) (fun _ _ _ _ _ h => h) hK (fun w1 hS => op_pure hT rfl) ?_
      refine ga_take 10 rfl rfl rfl rfl (by kernel_rfl) (fun _ _ _ _ _ h => h) hK (fun w1 hS => op_pure hT rfl) ?_
      refine ga_take 11 rfl rfl rfl rfl (by kernel_rfl) (fun _ _ _ _ _ h => h) hK (fun w1 hS => op_pure hT rfl) ?_
      refine ga_one 13 (by kernel_rfl) rfl ?_
      refine gl_storeM 3 hS el85 rfl rfl rfl rfl rfl rfl rfl rfl rfl fun woutright_go_135 hS => ?_
      refine gl_nil ?_
      refine ga_next (hS.pre 3) fun hK => ?_
      refine ga_take 14 rfl rfl rfl rfl (by kernel_rfl) (fun _ _ _ _ _ h => h) hK (fun w1 hS => op_pure hT rfl) ?_
      refine ga_take 15 rfl rfl rfl rfl (by kernel_rfl) (fun _ _ _ _ _ h => h) hK (fun w1 hS => op_pure hT rfl) ?_
      refine ga_done (by kernel_rfl) ?_
      intro a ha; exact ⟨ha.sub ⟨rfl, rfl, rfl, rfl, trivial⟩, hS.pre 0⟩
  rintro a w4 ⟨hF3, hS⟩
  refine gc_of hF3 ?_
  refine gc_seq fun K8 hK8 => ?_
  refine gc_region ?_
  refine gl_op rfl rfl rfl (op_pure hT rfl) ?_
  refine gl_op rfl rfl rfl (op_pure hT rfl) ?_
  refine gl_op rfl rfl rfl (op_pure hT rfl) ?_
  refine gl_un rfl rfl rfl rfl ?_
  refine gl_op rfl rfl rfl (op_pure hT rfl) ?_
  refine gl_un rfl rfl rfl rfl ?_
  refine gl_op rfl rfl rfl (op_pure hT rfl) ?_
  refine gl_op rfl rfl rfl (op_pure hT rfl) ?_
  refine gl_op rfl rfl rfl (op_pure hT rfl) ?_
  refine gl_un rfl rfl rfl rfl ?_
  refine gl_op rfl rfl rfl (op_pure hT rfl) ?_
  refine gl_un rfl rfl rfl rfl ?_
  refine gl_op rfl rfl rfl (op_pure hT rfl) ?_
  refine gl_op rfl rfl rfl (op_pure hT rfl) ?_
  refine gl_op rfl rfl rfl (op_pure hT rfl) ?_
  refine gl_un rfl rfl rfl rfl ?_
  refine gl_op rfl rfl rfl (op_pure hT rfl) ?_
  refine gl_un rfl rfl rfl rfl ?_
  refine gl_op rfl rfl rfl (op_pure hT rfl) ?_
  refine gl_op rfl rfl rfl (op_pure hT rfl) ?_
  refine gl_op rfl rfl rfl (op_pure hT rfl) ?_
  refine gl_nil ?_
  refine hK8 _ _ ?_
  clear hK8; try clear K8
  refine gc_ret ?_
  try simp only [x_then_ret, x_block_ret]
  refine gk_ret1 rfl rfl ?_
  exact ⟨rfl, hS.below⟩
end Go.Proofs.YtpeomdobcobdiaaDoor
