/- Contracts of functions that CodeProps reaches, and words to say them. No condition. -/
import Derived.Test.YtnomlloaahoceaaDoorZ08
/- Contracts of model.fields, model.Out, model.Lists. No condition. -/
namespace Go.Proofs.YtnomlloaahoceaaDoor
open Go.RowKit
set_option linter.unusedVariables false
set_option linter.unusedSimpArgs false
theorem bnd_at (k kh kw : Int) (j : Nat) (h : j < 16) : (bndC k kh kw)[j]? = some (.int .i64 ((bndI k kh kw).getD j 0)) := by
  have hl : (bndI k kh kw).length = 16 := by have := bndC_len k kh kw; rw [bndC_eq, List.length_map] at this; exact this
  rw [bndC_eq, List.getElem?_map, List.getElem?_eq_getElem (by omega), List.getD_eq_getElem?_getD, List.getElem?_eq_getElem (by omega)]
  rfl
theorem int_at (l : List Int) (j : Nat) (h : j < l.length) : (l.map (Value.int .i64))[j]? = some (.int .i64 (l.getD j 0)) := by
  rw [List.getElem?_map, List.getElem?_eq_getElem h, List.getD_eq_getElem?_getD, List.getElem?_eq_getElem h]
  rfl
set_option maxHeartbeats 2000000 in
set_option maxRecDepth 100000 in
theorem fields_calls (L : Ly) (w : World) (hL : L.ok) : Calls Tryd.prog 91 ⟨[.agg ⟨lyC L⟩]⟩ w fun e w' => e = .returned (.int .i64 (fieldsV L)) ∧ Below w.heap.size w w' := by
  have hfits := fits_iff L
  obtain ⟨k, out, kh, kw, sh, sw, ph, pw, fr, a, W, B, Z, ZB⟩ := L
  show Calls _ _ ⟨[Value.agg ⟨[.int .i64 k, .int .i64 out, .int .i64 kh, .int .i64 kw, .int .i64 sh, .int .i64 sw, .int .i64 ph, .int .i64 pw, .int .i64 fr, .float .f64 a, svV W, svV B, svV Z, svV ZB]⟩]⟩ w _
  have ha64 : a < 18446744073709551616 := hL.a
  obtain ⟨L, hLe⟩ : ∃ L : Ly, L = ⟨k, out, kh, kw, sh, sw, ph, pw, fr, a, W, B, Z, ZB⟩ := ⟨_, rfl⟩
  rw [← hLe] at hfits ⊢
  have hLk : L.k = k := by rw [hLe]
  have hLa : L.a = a := by rw [hLe]
  refine gc_enter (N := 87) Tryd.func91 rfl rfl rfl [(0, _)] rfl ?_
  have hS := St.start w
  refine gc_seq fun K1 hK1 => ?_
  refine gc_region ?_
  refine gl_box hS rfl rfl rfl rfl rfl fun g1 w1 hS => ?_
  refine gl_op rfl rfl rfl (op_pure hT rfl) ?_
  refine gl_nil ?_
  refine hK1 _ _ ?_
  clear hK1; try clear K1
  refine gc_seq fun K2 hK2 => ?_
  refine gc_seq fun K3 hK3 => ?_
  refine gc_region ?_
  refine gl_op rfl rfl rfl (op_fieldB 0 rfl Tryd.underlying65 rfl el3 rfl rfl) ?_
  refine gl_op rfl rfl rfl (op_loadB 0 hT hS rfl rfl rfl rfl rfl rfl) ?_
  refine gl_op rfl rfl rfl (op_pure hT rfl) ?_
  refine gl_op rfl rfl rfl (op_pure hT rfl) ?_
  refine gl_split (t := 10) rfl (fun c10 => ?_) (fun c10 => ?_)
  · try simp only [decide_eq_true_eq, decide_eq_false_iff_not, Bool.not_eq_true', Bool.not_eq_false', Int.not_lt, Int.not_le, Nat.not_lt, Nat.not_le, Bool.true_eq, Bool.false_eq, reduceCtorEq] at c10
    refine gl_pass rfl rfl rfl rfl rfl rfl ?_
    refine gl_pass rfl rfl rfl rfl rfl rfl ?_
    refine gl_pass rfl rfl rfl rfl rfl rfl ?_
    refine gl_op rfl rfl rfl (op_pure hT rfl) ?_
    refine gl_nil ?_
    refine hK3 _ _ ?_
    clear hK3; try clear K3
    refine gc_cond_t rfl ?_
    refine gc_seq fun K4 hK4 => ?_
    refine gc_region ?_
    refine gl_op rfl rfl rfl (op_pure hT rfl) ?_
    refine gl_nil ?_
    refine hK4 _ _ ?_
    clear hK4; try clear K4
    refine gc_ret ?_
    try simp only [x_then_ret, x_block_ret]
    refine gk_ret1 rfl rfl ?_
    refine ⟨?_, hS.below⟩
    first
      | (exact absurd (c59.symm.trans c67) (by decide))
      | (rw [c77] at c59; exact absurd c59 (by decide))
      | (rw [fv_61 (by omega)]; done)
      | (rw [fv_62 (by omega)]
         intro hok
         have hx := hfits.2 hok i (by omega)
         unfold fitAt at hx
         rw [hLk, show L.kh = kh by rw [hLe], show L.kw = kw by rw [hLe], Nat.mul_comm 2 i] at hx
         omega)
      | (rw [fv_62a (by omega) hok (by rw [hLk]; assumption) (by omega)]; done)
      | (rw [fv_0a (by omega) hok (by rw [hLk]; assumption) (by omega)]; done)
      | (rw [fv_64 (by omega) hok (by rw [hLk]; assumption) (by rw [hLa]; assumption)]; done)
      | (rw [fv_0b (by omega) hok (by rw [hLk]; assumption) (by rw [hLa]; assumption) (by omega)]; done)
      | (rw [fv_62b (by omega) hok (by rw [hLk]; assumption) (by rw [hLa]; assumption) (by omega) (by rw [hLa]; unfold aOut; first | rw [c81, Bool.true_or] | rw [c73, Bool.or_true])]; done)
      | (rw [fv_0c (by omega) hok (by rw [hLk]; assumption) (by rw [hLa]; assumption) (by rw [hLa]; unfold aOut; rw [c81, c73]; rfl)]; done)
      | trace_state
  · try simp only [decide_eq_true_eq, decide_eq_false_iff_not, Bool.not_eq_true', Bool.not_eq_false', Int.not_lt, Int.not_le, Nat.not_lt, Nat.not_le, Bool.true_eq, Bool.false_eq, reduceCtorEq] at c10
    refine gl_un rfl rfl rfl rfl ?_
    refine gl_op rfl rfl rfl (op_fieldB 0 rfl Tryd.underlying65 rfl el3 rfl rfl) ?_
    refine gl_un rfl rfl rfl rfl ?_
    refine gl_op rfl rfl rfl (op_loadB 0 hT hS rfl rfl rfl rfl rfl rfl) ?_
    refine gl_un rfl rfl rfl rfl ?_
    refine gl_op rfl rfl rfl (op_pure hT rfl) ?_
    refine gl_op rfl rfl rfl (op_pure hT rfl) ?_
    refine gl_nil ?_
    refine hK3 _ _ ?_
    clear hK3; try clear K3
    refine gc_cond rfl rfl (fun c14 => ?_) (fun c14 => ?_)
    · try simp only [decide_eq_true_eq, decide_eq_false_iff_not, Bool.not_eq_true', Bool.not_eq_false', Int.not_lt, Int.not_le, Nat.not_lt, Nat.not_le, Bool.true_eq, Bool.false_eq, reduceCtorEq] at c14
      refine gc_seq fun K5 hK5 => ?_
      refine gc_region ?_
      refine gl_op rfl rfl rfl (op_pure hT rfl) ?_
      refine gl_nil ?_
      refine hK5 _ _ ?_
      clear hK5; try clear K5
      refine gc_ret ?_
      try simp only [x_then_ret, x_block_ret]
      refine gk_ret1 rfl rfl ?_
      refine ⟨?_, hS.below⟩
      first
        | (exact absurd (c59.symm.trans c67) (by decide))
        | (rw [c77] at c59; exact absurd c59 (by decide))
        | (rw [fv_61 (by omega)]; done)
        | (rw [fv_62 (by omega)]
           intro hok
           have hx := hfits.2 hok i (by omega)
           unfold fitAt at hx
           rw [hLk, show L.kh = kh by rw [hLe], show L.kw = kw by rw [hLe], Nat.mul_comm 2 i] at hx
           omega)
        | (rw [fv_62a (by omega) hok (by rw [hLk]; assumption) (by omega)]; done)
        | (rw [fv_0a (by omega) hok (by rw [hLk]; assumption) (by omega)]; done)
        | (rw [fv_64 (by omega) hok (by rw [hLk]; assumption) (by rw [hLa]; assumption)]; done)
        | (rw [fv_0b (by omega) hok (by rw [hLk]; assumption) (by rw [hLa]; assumption) (by omega)]; done)
        | (rw [fv_62b (by omega) hok (by rw [hLk]; assumption) (by rw [hLa]; assumption) (by omega) (by rw [hLa]; unfold aOut; first | rw [c81, Bool.true_or] | rw [c73, Bool.or_true])]; done)
        | (rw [fv_0c (by omega) hok (by rw [hLk]; assumption) (by rw [hLa]; assumption) (by rw [hLa]; unfold aOut; rw [c81, c73]; rfl)]; done)
        | trace_state
    · try simp only [decide_eq_true_eq, decide_eq_false_iff_not, Bool.not_eq_true', Bool.not_eq_false', Int.not_lt, Int.not_le, Nat.not_lt, Nat.not_le, Bool.true_eq, Bool.false_eq, reduceCtorEq] at c14
      refine gc_skip ?_
      refine hK2 _ _ ?_
      clear hK2; try clear K2
      refine gc_seq fun K6 hK6 => ?_
      refine gc_region ?_
      refine gl_op rfl rfl rfl (op_loadG 0 Tryd.underlying65 rfl el65 hS rfl rfl rfl rfl rfl) ?_
      refine gl_callf rfl rfl rfl rfl Tryd.func98 rfl rfl rfl (bounds_calls ⟨k, out, kh, kw, sh, sw, ph, pw, fr, a, W, B, Z, ZB⟩ _ hL) ?_
      rintro _ w17 ⟨rfl, hb17⟩
      refine ⟨_, rfl, ?_⟩
      have hS := hS.grown hb17
      refine gl_op rfl rfl rfl (op_pure hT rfl) ?_
      refine gl_op rfl rfl rfl (op_pure hT rfl) ?_
      refine gl_op rfl rfl rfl (op_pure hT rfl) ?_
      refine gl_alloc el165 hS rfl rfl rfl rfl fun g3 w3 hS => ?_
      refine gl_storeM 1 hS el165 rfl rfl rfl rfl rfl rfl (bndC_len k kh kw) rfl (bndC_one k kh kw) fun wmodel_go_66 hS => ?_
      refine gl_op rfl rfl rfl (op_pure hT rfl) ?_
      refine gl_nil ?_
      refine hK6 _ _ ?_
      clear hK6; try clear K6
      refine gc_seq fun K7 hK7 => ?_
      refine gc_seq fun K8 hK8 => ?_
      refine gc_region ?_
      refine gl_op rfl rfl rfl (op_fieldB 1 rfl Tryd.underlying65 rfl el3 rfl rfl) ?_
      refine gl_op rfl rfl rfl (op_loadB 0 hT hS rfl rfl rfl rfl rfl rfl) ?_
      refine gl_op rfl rfl rfl (op_fieldB 2 rfl Tryd.underlying65 rfl el3 rfl rfl) ?_
      refine gl_op rfl rfl rfl (op_loadB 0 hT hS rfl rfl rfl rfl rfl rfl) ?_
      refine gl_op rfl rfl rfl (op_fieldB 3 rfl Tryd.underlying65 rfl el3 rfl rfl) ?_
      refine gl_op rfl rfl rfl (op_loadB 0 hT hS rfl rfl rfl rfl rfl rfl) ?_
      refine gl_op rfl rfl rfl (op_fieldB 4 rfl Tryd.underlying65 rfl el3 rfl rfl) ?_
      refine gl_op rfl rfl rfl (op_loadB 0 hT hS rfl rfl rfl rfl rfl rfl) ?_
      refine gl_op rfl rfl rfl (op_fieldB 5 rfl Tryd.underlying65 rfl el3 rfl rfl) ?_
      refine gl_op rfl rfl rfl (op_loadB 0 hT hS rfl rfl rfl rfl rfl rfl) ?_
      refine gl_op rfl rfl rfl (op_fieldB 6 rfl Tryd.underlying65 rfl el3 rfl rfl) ?_
      refine gl_op rfl rfl rfl (op_loadB 0 hT hS rfl rfl rfl rfl rfl rfl) ?_
      refine gl_op rfl rfl rfl (op_fieldB 7 rfl Tryd.underlying65 rfl el3 rfl rfl) ?_
      refine gl_op rfl rfl rfl (op_loadB 0 hT hS rfl rfl rfl rfl rfl rfl) ?_
      refine gl_op rfl rfl rfl (op_fieldB 8 rfl Tryd.underlying65 rfl el3 rfl rfl) ?_
      refine gl_op rfl rfl rfl (op_loadB 0 hT hS rfl rfl rfl rfl rfl rfl) ?_
      refine gl_op rfl rfl rfl (op_buildG rfl plan168 rfl rfl) ?_
      refine gl_op rfl rfl rfl (op_pure hT rfl) ?_
      refine gl_nil ?_
      refine hK8 _ _ ?_
      clear hK8; try clear K8
      refine gc_block ?_
      have e1 : spliceL [.int .i64 0, .int .i64 0, .int .i64 0, .int .i64 0, .int .i64 0, .int .i64 0, .int .i64 0, .int .i64 0, .int .i64 0, .int .i64 0, .int .i64 0, .int .i64 0, .int .i64 0, .int .i64 0, .int .i64 0, .int .i64 0] 0 (bndC k kh kw) = bndC k kh kw := by unfold spliceL; rw [bndC_len, List.drop_eq_nil_of_le (by decide)]; simp
      have hS : St w.heap.size w _ [.blk g1 65 [.int .i64 k, .int .i64 out, .int .i64 kh, .int .i64 kw, .int .i64 sh, .int .i64 sw, .int .i64 ph, .int .i64 pw, .int .i64 fr, .float .f64 a, svV W, svV B, svV Z, svV ZB], .blk g3 165 (spliceL [.int .i64 0, .int .i64 0, .int .i64 0, .int .i64 0, .int .i64 0, .int .i64 0, .int .i64 0, .int .i64 0, .int .i64 0, .int .i64 0, .int .i64 0, .int .i64 0, .int .i64 0, .int .i64 0, .int .i64 0, .int .i64 0] 0 (bndC k kh kw))] := hS
      rw [e1] at hS
      refine gc_loop (fun n a' w' => ∃ i : Nat, Fr 87 a' [(1, .pointer (some ⟨g1, 0, none⟩)), (3, .pointer (some ⟨g3, 0, none⟩)), (4, .bool (bndA k)), (36, .agg ⟨(fldI L).map (Value.int .i64)⟩), (37, .int .i64 (i : Nat))] ∧ i ≤ 8 ∧ n = 9 - i ∧ (∀ j, j < i → fitAt L j) ∧
        St w.heap.size w w' [.blk g1 65 [.int .i64 k, .int .i64 out, .int .i64 kh, .int .i64 kw, .int .i64 sh, .int .i64 sw, .int .i64 ph, .int .i64 pw, .int .i64 fr, .float .f64 a, svV W, svV B, svV Z, svV ZB], .blk g3 165 (bndC k kh kw)]) 9 ?_ ?_ ?_
      · intro a' ha
        refine ⟨0, ha.sub ⟨rfl, rfl, rfl, ?_, rfl, trivial⟩, by omega, by omega, fun j hj => by omega, hS⟩
        rw [hLe]; rfl
      · rintro a' w' ⟨i, _, h1, h2, _⟩; omega
      rintro n a' w' ⟨i, hF, hi, hn, hfit, hS⟩
      refine gc_of hF ?_
      clear hF
      refine gc_seq fun K9 hK9 => ?_
      refine gc_region ?_
      refine gl_op rfl rfl rfl (op_pure hT rfl) ?_
      refine gl_nil ?_
      refine hK9 _ _ ?_
      clear hK9; try clear K9
      refine gc_seq fun K10 hK10 => ?_
      refine gc_cond rfl rfl (fun c38 => ?_) (fun c38 => ?_)
      · try simp only [decide_eq_true_eq, decide_eq_false_iff_not, Bool.not_eq_true', Bool.not_eq_false', Int.not_lt, Int.not_le, Nat.not_lt, Nat.not_le, Bool.true_eq, Bool.false_eq, reduceCtorEq] at c38
        refine gc_skip ?_
        refine hK10 _ _ ?_
        clear hK10; try clear K10
        refine gc_seq fun K11 hK11 => ?_
        refine gc_block ?_
        refine gc_seq fun K12 hK12 => ?_
        refine gc_region ?_
        refine gl_op rfl rfl rfl (op_pure hT rfl) ?_
        have hv := int_at (fldI L) i (by show i < 8; omega)
        refine gl_op rfl rfl rfl (op_indexA hT rfl Tryd.underlying168 el3 rfl rfl rfl rfl (by omega) (by omega) (by rw [Int.toNat_natCast]; exact hv)) ?_
        refine gl_op rfl rfl rfl (op_pure hT rfl) ?_
        refine gl_op rfl rfl rfl (op_pure hT rfl) ?_
        refine gl_nil ?_
        refine hK12 _ _ ?_
        clear hK12; try clear K12
        refine gc_seq fun K13 hK13 => ?_
        refine gc_region ?_
        refine gl_op rfl rfl rfl (op_pure hT rfl) ?_
        refine gl_op rfl rfl rfl (op_pure hT rfl) ?_
        refine gl_op rfl rfl rfl (op_ixA (j := i * 2) rfl Tryd.underlying165 el164 rfl rfl (by omega) (by omega) (by rw [Int.toNat_natCast]; omega)) ?_
        refine gl_op rfl rfl rfl (op_fieldB (i * 2) rfl Tryd.underlying164 rfl el3 rfl rfl) ?_
        refine gl_op rfl rfl rfl (op_loadB 1 hT hS rfl rfl rfl rfl rfl (bnd_at k kh kw (i * 2) (by omega))) ?_
        refine gl_op rfl rfl rfl (op_pure hT rfl) ?_
        refine gl_op rfl rfl rfl (op_pure hT rfl) ?_
        refine gl_split (t := 47) rfl (fun c47 => ?_) (fun c47 => ?_)
        · try simp only [decide_eq_true_eq, decide_eq_false_iff_not, Bool.not_eq_true', Bool.not_eq_false', Int.not_lt, Int.not_le, Nat.not_lt, Nat.not_le, Bool.true_eq, Bool.false_eq, reduceCtorEq] at c47
          refine gl_pass rfl rfl rfl rfl rfl rfl ?_
          refine gl_pass rfl rfl rfl rfl rfl rfl ?_
          refine gl_pass rfl rfl rfl rfl rfl rfl ?_
          refine gl_pass rfl rfl rfl rfl rfl rfl ?_
          refine gl_pass rfl rfl rfl rfl rfl rfl ?_
          refine gl_pass rfl rfl rfl rfl rfl rfl ?_
          refine gl_op rfl rfl rfl (op_pure hT rfl) ?_
          refine gl_nil ?_
          refine hK13 _ _ ?_
          clear hK13; try clear K13
          refine gc_cond_t rfl ?_
          refine gc_seq fun K14 hK14 => ?_
          refine gc_region ?_
          refine gl_op rfl rfl rfl (op_pure hT rfl) ?_
          refine gl_nil ?_
          refine hK14 _ _ ?_
          clear hK14; try clear K14
          refine gc_ret ?_
          try simp only [x_then_ret, x_block_ret]
          refine gk_ret1 rfl rfl ?_
          refine ⟨?_, hS.below⟩
          first
            | (exact absurd (c59.symm.trans c67) (by decide))
            | (rw [c77] at c59; exact absurd c59 (by decide))
            | (rw [fv_61 (by omega)]; done)
            | (rw [fv_62 (by omega)]
               intro hok
               have hx := hfits.2 hok i (by omega)
               unfold fitAt at hx
               rw [hLk, show L.kh = kh by rw [hLe], show L.kw = kw by rw [hLe], Nat.mul_comm 2 i] at hx
               omega)
            | (rw [fv_62a (by omega) hok (by rw [hLk]; assumption) (by omega)]; done)
            | (rw [fv_0a (by omega) hok (by rw [hLk]; assumption) (by omega)]; done)
            | (rw [fv_64 (by omega) hok (by rw [hLk]; assumption) (by rw [hLa]; assumption)]; done)
            | (rw [fv_0b (by omega) hok (by rw [hLk]; assumption) (by rw [hLa]; assumption) (by omega)]; done)
            | (rw [fv_62b (by omega) hok (by rw [hLk]; assumption) (by rw [hLa]; assumption) (by omega) (by rw [hLa]; unfold aOut; first | rw [c81, Bool.true_or] | rw [c73, Bool.or_true])]; done)
            | (rw [fv_0c (by omega) hok (by rw [hLk]; assumption) (by rw [hLa]; assumption) (by rw [hLa]; unfold aOut; rw [c81, c73]; rfl)]; done)
            | trace_state
        · try simp only [decide_eq_true_eq, decide_eq_false_iff_not, Bool.not_eq_true', Bool.not_eq_false', Int.not_lt, Int.not_le, Nat.not_lt, Nat.not_le, Bool.true_eq, Bool.false_eq, reduceCtorEq] at c47
          refine gl_un rfl rfl rfl rfl ?_
          refine gl_op rfl rfl rfl (op_pure hT rfl) ?_
          refine gl_un rfl rfl rfl rfl ?_
          refine gl_op rfl rfl rfl (op_pure hT rfl) ?_
          refine gl_un rfl rfl rfl rfl ?_
          refine gl_op rfl rfl rfl (op_ixA (j := i * 2) rfl Tryd.underlying165 el164 rfl rfl (by omega) (by omega) (by rw [Int.toNat_natCast]; omega)) ?_
          refine gl_un rfl rfl rfl rfl ?_
          refine gl_op rfl rfl rfl (op_fieldB (i * 2 + 1) rfl Tryd.underlying164 rfl el3 rfl rfl) ?_
          refine gl_un rfl rfl rfl rfl ?_
          refine gl_op rfl rfl rfl (op_loadB 1 hT hS rfl rfl rfl rfl rfl (bnd_at k kh kw (i * 2 + 1) (by omega))) ?_
          refine gl_un rfl rfl rfl rfl ?_
          refine gl_op rfl rfl rfl (op_pure hT rfl) ?_
          refine gl_op rfl rfl rfl (op_pure hT rfl) ?_
          refine gl_nil ?_
          refine hK13 _ _ ?_
          clear hK13; try clear K13
          refine gc_cond rfl rfl (fun c54 => ?_) (fun c54 => ?_)
          · try simp only [decide_eq_true_eq, decide_eq_false_iff_not, Bool.not_eq_true', Bool.not_eq_false', Int.not_lt, Int.not_le, Nat.not_lt, Nat.not_le, Bool.true_eq, Bool.false_eq, reduceCtorEq] at c54
            refine gc_seq fun K15 hK15 => ?_
            refine gc_region ?_
            refine gl_op rfl rfl rfl (op_pure hT rfl) ?_
            refine gl_nil ?_
            refine hK15 _ _ ?_
            clear hK15; try clear K15
            refine gc_ret ?_
            try simp only [x_then_ret, x_block_ret]
            refine gk_ret1 rfl rfl ?_
            refine ⟨?_, hS.below⟩
            first
              | (exact absurd (c59.symm.trans c67) (by decide))
              | (rw [c77] at c59; exact absurd c59 (by decide))
              | (rw [fv_61 (by omega)]; done)
              | (rw [fv_62 (by omega)]
                 intro hok
                 have hx := hfits.2 hok i (by omega)
                 unfold fitAt at hx
                 rw [hLk, show L.kh = kh by rw [hLe], show L.kw = kw by rw [hLe], Nat.mul_comm 2 i] at hx
                 omega)
              | (rw [fv_62a (by omega) hok (by rw [hLk]; assumption) (by omega)]; done)
              | (rw [fv_0a (by omega) hok (by rw [hLk]; assumption) (by omega)]; done)
              | (rw [fv_64 (by omega) hok (by rw [hLk]; assumption) (by rw [hLa]; assumption)]; done)
              | (rw [fv_0b (by omega) hok (by rw [hLk]; assumption) (by rw [hLa]; assumption) (by omega)]; done)
              | (rw [fv_62b (by omega) hok (by rw [hLk]; assumption) (by rw [hLa]; assumption) (by omega) (by rw [hLa]; unfold aOut; first | rw [c81, Bool.true_or] | rw [c73, Bool.or_true])]; done)
              | (rw [fv_0c (by omega) hok (by rw [hLk]; assumption) (by rw [hLa]; assumption) (by rw [hLa]; unfold aOut; rw [c81, c73]; rfl)]; done)
              | trace_state
          · try simp only [decide_eq_true_eq, decide_eq_false_iff_not, Bool.not_eq_true', Bool.not_eq_false', Int.not_lt, Int.not_le, Nat.not_lt, Nat.not_le, Bool.true_eq, Bool.false_eq, reduceCtorEq] at c54
            refine gc_skip ?_
            refine hK11 _ _ ?_
            clear hK11; try clear K11
            refine gc_region ?_
            first | refine gl_fit hT rfl rfl rfl rfl (by omega) ?_ | refine gl_op rfl rfl rfl (op_pure hT rfl) ?_
            refine gl_op rfl rfl rfl (op_pure hT rfl) ?_
            refine gl_nil ?_
            intro a' ha
            refine ⟨i + 1, ha.sub ⟨rfl, rfl, rfl, rfl, rfl, trivial⟩, by omega, by omega, fun j hj => ?_, hS⟩
            rcases Nat.lt_or_ge j i with h | h
            · exact hfit j h
            · have hj2 : j = i := by omega
              subst hj2
              unfold fitAt
              rw [hLk, show L.kh = kh by rw [hLe], show L.kw = kw by rw [hLe], Nat.mul_comm 2 j]
              omega
      · try simp only [decide_eq_true_eq, decide_eq_false_iff_not, Bool.not_eq_true', Bool.not_eq_false', Int.not_lt, Int.not_le, Nat.not_lt, Nat.not_le, Bool.true_eq, Bool.false_eq, reduceCtorEq] at c38
        have hok : fldOk L := hfits.1 fun j hj => hfit j (by omega)
        refine gc_exit ?_
        refine hK7 _ _ ?_
        clear hK7; try clear K7
        refine gc_seq fun K16 hK16 => ?_
        refine gc_block ?_
        refine gc_seq fun K17 hK17 => ?_
        refine gc_region ?_
        refine gl_op rfl rfl rfl (op_pure hT rfl) ?_
        refine gl_op rfl rfl rfl (op_pure hT rfl) ?_
        refine gl_op rfl rfl rfl (op_pure hT rfl) ?_
        refine gl_split (t := 59) rfl (fun c59 => ?_) (fun c59 => ?_)
        · try simp only [decide_eq_true_eq, decide_eq_false_iff_not, Bool.not_eq_true', Bool.not_eq_false', Int.not_lt, Int.not_le, Nat.not_lt, Nat.not_le, Bool.true_eq, Bool.false_eq, reduceCtorEq] at c59
          refine gl_un rfl rfl rfl rfl ?_
          refine gl_op rfl rfl rfl (op_fieldB 9 rfl Tryd.underlying65 rfl el62 rfl rfl) ?_
          refine gl_un rfl rfl rfl rfl ?_
          refine gl_op rfl rfl rfl (op_loadB 0 hT hS rfl rfl rfl rfl rfl rfl) ?_
          refine gl_un rfl rfl rfl rfl ?_
          refine gl_callf rfl rfl rfl rfl Tryd.func32 rfl rfl rfl (mBits_calls a _) ?_
          rintro _ _ ⟨rfl, n62, rfl⟩
          refine ⟨_, rfl, ?_⟩
          have hS := hS.dr n62
          refine gl_un rfl rfl rfl rfl ?_
          refine gl_op rfl rfl rfl (op_pure hT rfl) ?_
          refine gl_op rfl rfl rfl (op_pure hT rfl) ?_
          refine gl_op rfl rfl rfl (op_pure hT rfl) ?_
          refine gl_nil ?_
          refine hK17 _ _ ?_
          clear hK17; try clear K17
          refine gc_cond rfl rfl (fun c56 => ?_) (fun c56 => ?_)
          · try simp only [decide_eq_true_eq, decide_eq_false_iff_not, Bool.not_eq_true', Bool.not_eq_false', Int.not_lt, Int.not_le, Nat.not_lt, Nat.not_le, Bool.true_eq, Bool.false_eq, reduceCtorEq] at c56
            refine gc_seq fun K18 hK18 => ?_
            refine gc_region ?_
            refine gl_op rfl rfl rfl (op_pure hT rfl) ?_
            refine gl_nil ?_
            refine hK18 _ _ ?_
            clear hK18; try clear K18
            refine gc_ret ?_
            try simp only [x_then_ret, x_block_ret]
            refine gk_ret1 rfl rfl ?_
            refine ⟨?_, hS.below⟩
            first
              | (exact absurd (c59.symm.trans c67) (by decide))
              | (rw [c77] at c59; exact absurd c59 (by decide))
              | (rw [fv_61 (by omega)]; done)
              | (rw [fv_62 (by omega)]
                 intro hok
                 have hx := hfits.2 hok i (by omega)
                 unfold fitAt at hx
                 rw [hLk, show L.kh = kh by rw [hLe], show L.kw = kw by rw [hLe], Nat.mul_comm 2 i] at hx
                 omega)
              | (rw [fv_62a (by omega) hok (by rw [hLk]; assumption) (by omega)]; done)
              | (rw [fv_0a (by omega) hok (by rw [hLk]; assumption) (by omega)]; done)
              | (rw [fv_64 (by omega) hok (by rw [hLk]; assumption) (by rw [hLa]; assumption)]; done)
              | (rw [fv_0b (by omega) hok (by rw [hLk]; assumption) (by rw [hLa]; assumption) (by omega)]; done)
              | (rw [fv_62b (by omega) hok (by rw [hLk]; assumption) (by rw [hLa]; assumption) (by omega) (by rw [hLa]; unfold aOut; first | rw [c81, Bool.true_or] | rw [c73, Bool.or_true])]; done)
              | (rw [fv_0c (by omega) hok (by rw [hLk]; assumption) (by rw [hLa]; assumption) (by rw [hLa]; unfold aOut; rw [c81, c73]; rfl)]; done)
              | trace_state
          · try simp only [decide_eq_true_eq, decide_eq_false_iff_not, Bool.not_eq_true', Bool.not_eq_false', Int.not_lt, Int.not_le, Nat.not_lt, Nat.not_le, Bool.true_eq, Bool.false_eq, reduceCtorEq] at c56
            refine gc_seq fun K19 hK19 => ?_
            refine gc_region ?_
            refine gl_op rfl rfl rfl (op_pure hT rfl) ?_
            refine gl_op rfl rfl rfl (op_pure hT rfl) ?_
            refine gl_split (t := 67) rfl (fun c67 => ?_) (fun c67 => ?_)
            · try simp only [decide_eq_true_eq, decide_eq_false_iff_not, Bool.not_eq_true', Bool.not_eq_false', Int.not_lt, Int.not_le, Nat.not_lt, Nat.not_le, Bool.true_eq, Bool.false_eq, reduceCtorEq] at c67
              refine gl_un rfl rfl rfl rfl ?_
              refine gl_op rfl rfl rfl (op_fieldB 9 rfl Tryd.underlying65 rfl el62 rfl rfl) ?_
              refine gl_un rfl rfl rfl rfl ?_
              refine gl_op rfl rfl rfl (op_loadB 0 hT hS rfl rfl rfl rfl rfl rfl) ?_
              refine gl_un rfl rfl rfl rfl ?_
              refine gl_callf rfl rfl rfl rfl Tryd.func85 rfl rfl rfl (mnumber_calls a ha64 _) ?_
              rintro _ _ ⟨rfl, n70, rfl⟩
              refine ⟨_, rfl, ?_⟩
              have hS := hS.dr n70
              refine gl_un rfl rfl rfl rfl ?_
              refine gl_op rfl rfl rfl (op_pure hT rfl) ?_
              refine gl_op rfl rfl rfl (op_pure hT rfl) ?_
              refine gl_op rfl rfl rfl (op_pure hT rfl) ?_
              refine gl_nil ?_
              refine hK19 _ _ ?_
              clear hK19; try clear K19
              refine gc_cond rfl rfl (fun c65 => ?_) (fun c65 => ?_)
              · try simp only [decide_eq_true_eq, decide_eq_false_iff_not, Bool.not_eq_true', Bool.not_eq_false', Int.not_lt, Int.not_le, Nat.not_lt, Nat.not_le, Bool.true_eq, Bool.false_eq, reduceCtorEq] at c65
                refine gc_seq fun K20 hK20 => ?_
                refine gc_region ?_
                refine gl_op rfl rfl rfl (op_pure hT rfl) ?_
                refine gl_nil ?_
                refine hK20 _ _ ?_
                clear hK20; try clear K20
                refine gc_ret ?_
                try simp only [x_then_ret, x_block_ret]
                refine gk_ret1 rfl rfl ?_
                refine ⟨?_, hS.below⟩
                first
                  | (exact absurd (c59.symm.trans c67) (by decide))
                  | (rw [c77] at c59; exact absurd c59 (by decide))
                  | (rw [fv_61 (by omega)]; done)
                  | (rw [fv_62 (by omega)]
                     intro hok
                     have hx := hfits.2 hok i (by omega)
                     unfold fitAt at hx
                     rw [hLk, show L.kh = kh by rw [hLe], show L.kw = kw by rw [hLe], Nat.mul_comm 2 i] at hx
                     omega)
                  | (rw [fv_62a (by omega) hok (by rw [hLk]; assumption) (by omega)]; done)
                  | (rw [fv_0a (by omega) hok (by rw [hLk]; assumption) (by omega)]; done)
                  | (rw [fv_64 (by omega) hok (by rw [hLk]; assumption) (by rw [hLa]; assumption)]; done)
                  | (rw [fv_0b (by omega) hok (by rw [hLk]; assumption) (by rw [hLa]; assumption) (by omega)]; done)
                  | (rw [fv_62b (by omega) hok (by rw [hLk]; assumption) (by rw [hLa]; assumption) (by omega) (by rw [hLa]; unfold aOut; first | rw [c81, Bool.true_or] | rw [c73, Bool.or_true])]; done)
                  | (rw [fv_0c (by omega) hok (by rw [hLk]; assumption) (by rw [hLa]; assumption) (by rw [hLa]; unfold aOut; rw [c81, c73]; rfl)]; done)
                  | trace_state
              · try simp only [decide_eq_true_eq, decide_eq_false_iff_not, Bool.not_eq_true', Bool.not_eq_false', Int.not_lt, Int.not_le, Nat.not_lt, Nat.not_le, Bool.true_eq, Bool.false_eq, reduceCtorEq] at c65
                refine gc_seq fun K21 hK21 => ?_
                refine gc_region ?_
                refine gl_op rfl rfl rfl (op_fieldB 0 rfl Tryd.underlying65 rfl el3 rfl rfl) ?_
                refine gl_op rfl rfl rfl (op_loadB 0 hT hS rfl rfl rfl rfl rfl rfl) ?_
                refine gl_op rfl rfl rfl (op_pure hT rfl) ?_
                refine gl_op rfl rfl rfl (op_pure hT rfl) ?_
                refine gl_split (t := 77) rfl (fun c77 => ?_) (fun c77 => ?_)
                · try simp only [decide_eq_true_eq, decide_eq_false_iff_not, Bool.not_eq_true', Bool.not_eq_false', Int.not_lt, Int.not_le, Nat.not_lt, Nat.not_le, Bool.true_eq, Bool.false_eq, reduceCtorEq] at c77
                  refine gl_un rfl rfl rfl rfl ?_
                  refine gl_op rfl rfl rfl (op_fieldB 9 rfl Tryd.underlying65 rfl el62 rfl rfl) ?_
                  refine gl_un rfl rfl rfl rfl ?_
                  refine gl_op rfl rfl rfl (op_loadB 0 hT hS rfl rfl rfl rfl rfl rfl) ?_
                  refine gl_un rfl rfl rfl rfl ?_
                  refine gl_op rfl rfl rfl (op_fcmp rfl rfl rfl rfl) ?_
                  refine gl_un rfl rfl rfl rfl ?_
                  refine gl_op rfl rfl rfl (op_pure hT rfl) ?_
                  refine gl_split (t := 81) rfl (fun c81 => ?_) (fun c81 => ?_)
                  · try simp only [decide_eq_true_eq, decide_eq_false_iff_not, Bool.not_eq_true', Bool.not_eq_false', Int.not_lt, Int.not_le, Nat.not_lt, Nat.not_le, Bool.true_eq, Bool.false_eq, reduceCtorEq] at c81
                    refine gl_pass rfl rfl rfl rfl rfl rfl ?_
                    refine gl_pass rfl rfl rfl rfl rfl rfl ?_
                    refine gl_pass rfl rfl rfl rfl rfl rfl ?_
                    refine gl_un rfl rfl rfl rfl ?_
                    refine gl_op rfl rfl rfl (op_pure hT rfl) ?_
                    refine gl_op rfl rfl rfl (op_pure hT rfl) ?_
                    refine gl_op rfl rfl rfl (op_pure hT rfl) ?_
                    refine gl_nil ?_
                    refine hK21 _ _ ?_
                    clear hK21; try clear K21
                    refine gc_cond_t rfl ?_
                    refine gc_seq fun K22 hK22 => ?_
                    refine gc_region ?_
                    refine gl_op rfl rfl rfl (op_pure hT rfl) ?_
                    refine gl_nil ?_
                    refine hK22 _ _ ?_
                    clear hK22; try clear K22
                    refine gc_ret ?_
                    try simp only [x_then_ret, x_block_ret]
                    refine gk_ret1 rfl rfl ?_
                    refine ⟨?_, hS.below⟩
                    first
                      | (exact absurd (c59.symm.trans c67) (by decide))
                      | (rw [c77] at c59; exact absurd c59 (by decide))
                      | (rw [fv_61 (by omega)]; done)
                      | (rw [fv_62 (by omega)]
                         intro hok
                         have hx := hfits.2 hok i (by omega)
                         unfold fitAt at hx
                         rw [hLk, show L.kh = kh by rw [hLe], show L.kw = kw by rw [hLe], Nat.mul_comm 2 i] at hx
                         omega)
                      | (rw [fv_62a (by omega) hok (by rw [hLk]; assumption) (by omega)]; done)
                      | (rw [fv_0a (by omega) hok (by rw [hLk]; assumption) (by omega)]; done)
                      | (rw [fv_64 (by omega) hok (by rw [hLk]; assumption) (by rw [hLa]; assumption)]; done)
                      | (rw [fv_0b (by omega) hok (by rw [hLk]; assumption) (by rw [hLa]; assumption) (by omega)]; done)
                      | (rw [fv_62b (by omega) hok (by rw [hLk]; assumption) (by rw [hLa]; assumption) (by omega) (by rw [hLa]; unfold aOut; first | rw [c81, Bool.true_or] | rw [c73, Bool.or_true])]; done)
                      | (rw [fv_0c (by omega) hok (by rw [hLk]; assumption) (by rw [hLa]; assumption) (by rw [hLa]; unfold aOut; rw [c81, c73]; rfl)]; done)
                      | trace_state
                  · try simp only [decide_eq_true_eq, decide_eq_false_iff_not, Bool.not_eq_true', Bool.not_eq_false', Int.not_lt, Int.not_le, Nat.not_lt, Nat.not_le, Bool.true_eq, Bool.false_eq, reduceCtorEq] at c81
                    refine gl_un rfl rfl rfl rfl ?_
                    refine gl_op rfl rfl rfl (op_fieldB 9 rfl Tryd.underlying65 rfl el62 rfl rfl) ?_
                    refine gl_un rfl rfl rfl rfl ?_
                    refine gl_op rfl rfl rfl (op_loadB 0 hT hS rfl rfl rfl rfl rfl rfl) ?_
                    refine gl_un rfl rfl rfl rfl ?_
                    refine gl_op rfl rfl rfl (op_fcmp rfl rfl rfl rfl) ?_
                    refine gl_un rfl rfl rfl rfl ?_
                    refine gl_op rfl rfl rfl (op_pure hT rfl) ?_
                    refine gl_op rfl rfl rfl (op_pure hT rfl) ?_
                    refine gl_op rfl rfl rfl (op_pure hT rfl) ?_
                    refine gl_nil ?_
                    refine hK21 _ _ ?_
                    clear hK21; try clear K21
                    refine gc_cond rfl rfl (fun c73 => ?_) (fun c73 => ?_)
                    · try simp only [decide_eq_true_eq, decide_eq_false_iff_not, Bool.not_eq_true', Bool.not_eq_false', Int.not_lt, Int.not_le, Nat.not_lt, Nat.not_le, Bool.true_eq, Bool.false_eq, reduceCtorEq] at c73
                      refine gc_seq fun K23 hK23 => ?_
                      refine gc_region ?_
                      refine gl_op rfl rfl rfl (op_pure hT rfl) ?_
                      refine gl_nil ?_
                      refine hK23 _ _ ?_
                      clear hK23; try clear K23
                      refine gc_ret ?_
                      try simp only [x_then_ret, x_block_ret]
                      refine gk_ret1 rfl rfl ?_
                      refine ⟨?_, hS.below⟩
                      first
                        | (exact absurd (c59.symm.trans c67) (by decide))
                        | (rw [c77] at c59; exact absurd c59 (by decide))
                        | (rw [fv_61 (by omega)]; done)
                        | (rw [fv_62 (by omega)]
                           intro hok
                           have hx := hfits.2 hok i (by omega)
                           unfold fitAt at hx
                           rw [hLk, show L.kh = kh by rw [hLe], show L.kw = kw by rw [hLe], Nat.mul_comm 2 i] at hx
                           omega)
                        | (rw [fv_62a (by omega) hok (by rw [hLk]; assumption) (by omega)]; done)
                        | (rw [fv_0a (by omega) hok (by rw [hLk]; assumption) (by omega)]; done)
                        | (rw [fv_64 (by omega) hok (by rw [hLk]; assumption) (by rw [hLa]; assumption)]; done)
                        | (rw [fv_0b (by omega) hok (by rw [hLk]; assumption) (by rw [hLa]; assumption) (by omega)]; done)
                        | (rw [fv_62b (by omega) hok (by rw [hLk]; assumption) (by rw [hLa]; assumption) (by omega) (by rw [hLa]; unfold aOut; first | rw [c81, Bool.true_or] | rw [c73, Bool.or_true])]; done)
                        | (rw [fv_0c (by omega) hok (by rw [hLk]; assumption) (by rw [hLa]; assumption) (by rw [hLa]; unfold aOut; rw [c81, c73]; rfl)]; done)
                        | trace_state
                    · try simp only [decide_eq_true_eq, decide_eq_false_iff_not, Bool.not_eq_true', Bool.not_eq_false', Int.not_lt, Int.not_le, Nat.not_lt, Nat.not_le, Bool.true_eq, Bool.false_eq, reduceCtorEq] at c73
                      refine gc_skip ?_
                      refine hK16 _ _ ?_
                      clear hK16; try clear K16
                      refine gc_seq fun K24 hK24 => ?_
                      refine gc_region ?_
                      refine gl_op rfl rfl rfl (op_pure hT rfl) ?_
                      refine gl_nil ?_
                      refine hK24 _ _ ?_
                      clear hK24; try clear K24
                      refine gc_ret ?_
                      try simp only [x_then_ret, x_block_ret]
                      refine gk_ret1 rfl rfl ?_
                      refine ⟨?_, hS.below⟩
                      first
                        | (exact absurd (c59.symm.trans c67) (by decide))
                        | (rw [c77] at c59; exact absurd c59 (by decide))
                        | (rw [fv_61 (by omega)]; done)
                        | (rw [fv_62 (by omega)]
                           intro hok
                           have hx := hfits.2 hok i (by omega)
                           unfold fitAt at hx
                           rw [hLk, show L.kh = kh by rw [hLe], show L.kw = kw by rw [hLe], Nat.mul_comm 2 i] at hx
                           omega)
                        | (rw [fv_62a (by omega) hok (by rw [hLk]; assumption) (by omega)]; done)
                        | (rw [fv_0a (by omega) hok (by rw [hLk]; assumption) (by omega)]; done)
                        | (rw [fv_64 (by omega) hok (by rw [hLk]; assumption) (by rw [hLa]; assumption)]; done)
                        | (rw [fv_0b (by omega) hok (by rw [hLk]; assumption) (by rw [hLa]; assumption) (by omega)]; done)
                        | (rw [fv_62b (by omega) hok (by rw [hLk]; assumption) (by rw [hLa]; assumption) (by omega) (by rw [hLa]; unfold aOut; first | rw [c81, Bool.true_or] | rw [c73, Bool.or_true])]; done)
                        | (rw [fv_0c (by omega) hok (by rw [hLk]; assumption) (by rw [hLa]; assumption) (by rw [hLa]; unfold aOut; rw [c81, c73]; rfl)]; done)
                        | trace_state
                · try simp only [decide_eq_true_eq, decide_eq_false_iff_not, Bool.not_eq_true', Bool.not_eq_false', Int.not_lt, Int.not_le, Nat.not_lt, Nat.not_le, Bool.true_eq, Bool.false_eq, reduceCtorEq] at c77
                  refine gl_pass rfl rfl rfl rfl rfl rfl ?_
                  refine gl_pass rfl rfl rfl rfl rfl rfl ?_
                  refine gl_pass rfl rfl rfl rfl rfl rfl ?_
                  refine gl_pass rfl rfl rfl rfl rfl rfl ?_
                  refine gl_none rfl rfl rfl rfl rfl ?_
                  refine gl_none rfl rfl rfl rfl rfl ?_
                  refine gl_none rfl rfl rfl rfl rfl ?_
                  refine gl_pass rfl rfl rfl rfl rfl rfl ?_
                  refine gl_op rfl rfl rfl (op_pure hT rfl) ?_
                  refine gl_op rfl rfl rfl (op_pure hT rfl) ?_
                  refine gl_nil ?_
                  refine hK21 _ _ ?_
                  clear hK21; try clear K21
                  refine gc_cond_f rfl ?_
                  refine gc_skip ?_
                  refine hK16 _ _ ?_
                  clear hK16; try clear K16
                  refine gc_seq fun K25 hK25 => ?_
                  refine gc_region ?_
                  refine gl_op rfl rfl rfl (op_pure hT rfl) ?_
                  refine gl_nil ?_
                  refine hK25 _ _ ?_
                  clear hK25; try clear K25
                  refine gc_ret ?_
                  try simp only [x_then_ret, x_block_ret]
                  refine gk_ret1 rfl rfl ?_
                  refine ⟨?_, hS.below⟩
                  first
                    | (exact absurd (c59.symm.trans c67) (by decide))
                    | (rw [c77] at c59; exact absurd c59 (by decide))
                    | (rw [fv_61 (by omega)]; done)
                    | (rw [fv_62 (by omega)]
                       intro hok
                       have hx := hfits.2 hok i (by omega)
                       unfold fitAt at hx
                       rw [hLk, show L.kh = kh by rw [hLe], show L.kw = kw by rw [hLe], Nat.mul_comm 2 i] at hx
                       omega)
                    | (rw [fv_62a (by omega) hok (by rw [hLk]; assumption) (by omega)]; done)
                    | (rw [fv_0a (by omega) hok (by rw [hLk]; assumption) (by omega)]; done)
                    | (rw [fv_64 (by omega) hok (by rw [hLk]; assumption) (by rw [hLa]; assumption)]; done)
                    | (rw [fv_0b (by omega) hok (by rw [hLk]; assumption) (by rw [hLa]; assumption) (by omega)]; done)
                    | (rw [fv_62b (by omega) hok (by rw [hLk]; assumption) (by rw [hLa]; assumption) (by omega) (by rw [hLa]; unfold aOut; first | rw [c81, Bool.true_or] | rw [c73, Bool.or_true])]; done)
                    | (rw [fv_0c (by omega) hok (by rw [hLk]; assumption) (by rw [hLa]; assumption) (by rw [hLa]; unfold aOut; rw [c81, c73]; rfl)]; done)
                    | trace_state
            · try simp only [decide_eq_true_eq, decide_eq_false_iff_not, Bool.not_eq_true', Bool.not_eq_false', Int.not_lt, Int.not_le, Nat.not_lt, Nat.not_le, Bool.true_eq, Bool.false_eq, reduceCtorEq] at c67
              refine gl_pass rfl rfl rfl rfl rfl rfl ?_
              refine gl_pass rfl rfl rfl rfl rfl rfl ?_
              refine gl_pass rfl rfl rfl rfl rfl rfl ?_
              refine gl_pass rfl rfl rfl rfl rfl rfl ?_
              refine gl_op rfl rfl rfl (op_pure hT rfl) ?_
              refine gl_op rfl rfl rfl (op_pure hT rfl) ?_
              refine gl_nil ?_
              refine hK19 _ _ ?_
              clear hK19; try clear K19
              refine gc_cond_f rfl ?_
              refine gc_seq fun K26 hK26 => ?_
              refine gc_region ?_
              refine gl_op rfl rfl rfl (op_fieldB 0 rfl Tryd.underlying65 rfl el3 rfl rfl) ?_
              refine gl_op rfl rfl rfl (op_loadB 0 hT hS rfl rfl rfl rfl rfl rfl) ?_
              refine gl_op rfl rfl rfl (op_pure hT rfl) ?_
              refine gl_op rfl rfl rfl (op_pure hT rfl) ?_
              refine gl_split (t := 77) rfl (fun c77 => ?_) (fun c77 => ?_)
              · try simp only [decide_eq_true_eq, decide_eq_false_iff_not, Bool.not_eq_true', Bool.not_eq_false', Int.not_lt, Int.not_le, Nat.not_lt, Nat.not_le, Bool.true_eq, Bool.false_eq, reduceCtorEq] at c77
                refine gl_un rfl rfl rfl rfl ?_
                refine gl_op rfl rfl rfl (op_fieldB 9 rfl Tryd.underlying65 rfl el62 rfl rfl) ?_
                refine gl_un rfl rfl rfl rfl ?_
                refine gl_op rfl rfl rfl (op_loadB 0 hT hS rfl rfl rfl rfl rfl rfl) ?_
                refine gl_un rfl rfl rfl rfl ?_
                refine gl_op rfl rfl rfl (op_fcmp rfl rfl rfl rfl) ?_
                refine gl_un rfl rfl rfl rfl ?_
                refine gl_op rfl rfl rfl (op_pure hT rfl) ?_
                refine gl_split (t := 81) rfl (fun c81 => ?_) (fun c81 => ?_)
                · try simp only [decide_eq_true_eq, decide_eq_false_iff_not, Bool.not_eq_true', Bool.not_eq_false', Int.not_lt, Int.not_le, Nat.not_lt, Nat.not_le, Bool.true_eq, Bool.false_eq, reduceCtorEq] at c81
                  refine gl_pass rfl rfl rfl rfl rfl rfl ?_
                  refine gl_pass rfl rfl rfl rfl rfl rfl ?_
                  refine gl_pass rfl rfl rfl rfl rfl rfl ?_
                  refine gl_un rfl rfl rfl rfl ?_
                  refine gl_op rfl rfl rfl (op_pure hT rfl) ?_
                  refine gl_op rfl rfl rfl (op_pure hT rfl) ?_
                  refine gl_op rfl rfl rfl (op_pure hT rfl) ?_
                  refine gl_nil ?_
                  refine hK26 _ _ ?_
                  clear hK26; try clear K26
                  refine gc_cond_t rfl ?_
                  refine gc_seq fun K27 hK27 => ?_
                  refine gc_region ?_
                  refine gl_op rfl rfl rfl (op_pure hT rfl) ?_
                  refine gl_nil ?_
                  refine hK27 _ _ ?_
                  clear hK27; try clear K27
                  refine gc_ret ?_
                  try simp only [x_then_ret, x_block_ret]
                  refine gk_ret1 rfl rfl ?_
                  refine ⟨?_, hS.below⟩
                  first
                    | (exact absurd (c59.symm.trans c67) (by decide))
                    | (rw [c77] at c59; exact absurd c59 (by decide))
                    | (rw [fv_61 (by omega)]; done)
                    | (rw [fv_62 (by omega)]
                       intro hok
                       have hx := hfits.2 hok i (by omega)
                       unfold fitAt at hx
                       rw [hLk, show L.kh = kh by rw [hLe], show L.kw = kw by rw [hLe], Nat.mul_comm 2 i] at hx
                       omega)
                    | (rw [fv_62a (by omega) hok (by rw [hLk]; assumption) (by omega)]; done)
                    | (rw [fv_0a (by omega) hok (by rw [hLk]; assumption) (by omega)]; done)
                    | (rw [fv_64 (by omega) hok (by rw [hLk]; assumption) (by rw [hLa]; assumption)]; done)
                    | (rw [fv_0b (by omega) hok (by rw [hLk]; assumption) (by rw [hLa]; assumption) (by omega)]; done)
                    | (rw [fv_62b (by omega) hok (by rw [hLk]; assumption) (by rw [hLa]; assumption) (by omega) (by rw [hLa]; unfold aOut; first | rw [c81, Bool.true_or] | rw [c73, Bool.or_true])]; done)
                    | (rw [fv_0c (by omega) hok (by rw [hLk]; assumption) (by rw [hLa]; assumption) (by rw [hLa]; unfold aOut; rw [c81, c73]; rfl)]; done)
                    | trace_state
                · try simp only [decide_eq_true_eq, decide_eq_false_iff_not, Bool.not_eq_true', Bool.not_eq_false', Int.not_lt, Int.not_le, Nat.not_lt, Nat.not_le, Bool.true_eq, Bool.false_eq, reduceCtorEq] at c81
                  refine gl_un rfl rfl rfl rfl ?_
                  refine gl_op rfl rfl rfl (op_fieldB 9 rfl Tryd.underlying65 rfl el62 rfl rfl) ?_
                  refine gl_un rfl rfl rfl rfl ?_
                  refine gl_op rfl rfl rfl (op_loadB 0 hT hS rfl rfl rfl rfl rfl rfl) ?_
                  refine gl_un rfl rfl rfl rfl ?_
                  refine gl_op rfl rfl rfl (op_fcmp rfl rfl rfl rfl) ?_
                  refine gl_un rfl rfl rfl rfl ?_
                  refine gl_op rfl rfl rfl (op_pure hT rfl) ?_
                  refine gl_op rfl rfl rfl (op_pure hT rfl) ?_
                  refine gl_op rfl rfl rfl (op_pure hT rfl) ?_
                  refine gl_nil ?_
                  refine hK26 _ _ ?_
                  clear hK26; try clear K26
                  refine gc_cond rfl rfl (fun c73 => ?_) (fun c73 => ?_)
                  · try simp only [decide_eq_true_eq, decide_eq_false_iff_not, Bool.not_eq_true', Bool.not_eq_false', Int.not_lt, Int.not_le, Nat.not_lt, Nat.not_le, Bool.true_eq, Bool.false_eq, reduceCtorEq] at c73
                    refine gc_seq fun K28 hK28 => ?_
                    refine gc_region ?_
                    refine gl_op rfl rfl rfl (op_pure hT rfl) ?_
                    refine gl_nil ?_
                    refine hK28 _ _ ?_
                    clear hK28; try clear K28
                    refine gc_ret ?_
                    try simp only [x_then_ret, x_block_ret]
                    refine gk_ret1 rfl rfl ?_
                    refine ⟨?_, hS.below⟩
                    first
                      | (exact absurd (c59.symm.trans c67) (by decide))
                      | (rw [c77] at c59; exact absurd c59 (by decide))
                      | (rw [fv_61 (by omega)]; done)
                      | (rw [fv_62 (by omega)]
                         intro hok
                         have hx := hfits.2 hok i (by omega)
                         unfold fitAt at hx
                         rw [hLk, show L.kh = kh by rw [hLe], show L.kw = kw by rw [hLe], Nat.mul_comm 2 i] at hx
                         omega)
                      | (rw [fv_62a (by omega) hok (by rw [hLk]; assumption) (by omega)]; done)
                      | (rw [fv_0a (by omega) hok (by rw [hLk]; assumption) (by omega)]; done)
                      | (rw [fv_64 (by omega) hok (by rw [hLk]; assumption) (by rw [hLa]; assumption)]; done)
                      | (rw [fv_0b (by omega) hok (by rw [hLk]; assumption) (by rw [hLa]; assumption) (by omega)]; done)
                      | (rw [fv_62b (by omega) hok (by rw [hLk]; assumption) (by rw [hLa]; assumption) (by omega) (by rw [hLa]; unfold aOut; first | rw [c81, Bool.true_or] | rw [c73, Bool.or_true])]; done)
                      | (rw [fv_0c (by omega) hok (by rw [hLk]; assumption) (by rw [hLa]; assumption) (by rw [hLa]; unfold aOut; rw [c81, c73]; rfl)]; done)
                      | trace_state
                  · try simp only [decide_eq_true_eq, decide_eq_false_iff_not, Bool.not_eq_true', Bool.not_eq_false', Int.not_lt, Int.not_le, Nat.not_lt, Nat.not_le, Bool.true_eq, Bool.false_eq, reduceCtorEq] at c73
                    refine gc_skip ?_
                    refine hK16 _ _ ?_
                    clear hK16; try clear K16
                    refine gc_seq fun K29 hK29 => ?_
                    refine gc_region ?_
                    refine gl_op rfl rfl rfl (op_pure hT rfl) ?_
                    refine gl_nil ?_
                    refine hK29 _ _ ?_
                    clear hK29; try clear K29
                    refine gc_ret ?_
                    try simp only [x_then_ret, x_block_ret]
                    refine gk_ret1 rfl rfl ?_
                    refine ⟨?_, hS.below⟩
                    first
                      | (exact absurd (c59.symm.trans c67) (by decide))
                      | (rw [c77] at c59; exact absurd c59 (by decide))
                      | (rw [fv_61 (by omega)]; done)
                      | (rw [fv_62 (by omega)]
                         intro hok
                         have hx := hfits.2 hok i (by omega)
                         unfold fitAt at hx
                         rw [hLk, show L.kh = kh by rw [hLe], show L.kw = kw by rw [hLe], Nat.mul_comm 2 i] at hx
                         omega)
                      | (rw [fv_62a (by omega) hok (by rw [hLk]; assumption) (by omega)]; done)
                      | (rw [fv_0a (by omega) hok (by rw [hLk]; assumption) (by omega)]; done)
                      | (rw [fv_64 (by omega) hok (by rw [hLk]; assumption) (by rw [hLa]; assumption)]; done)
                      | (rw [fv_0b (by omega) hok (by rw [hLk]; assumption) (by rw [hLa]; assumption) (by omega)]; done)
                      | (rw [fv_62b (by omega) hok (by rw [hLk]; assumption) (by rw [hLa]; assumption) (by omega) (by rw [hLa]; unfold aOut; first | rw [c81, Bool.true_or] | rw [c73, Bool.or_true])]; done)
                      | (rw [fv_0c (by omega) hok (by rw [hLk]; assumption) (by rw [hLa]; assumption) (by rw [hLa]; unfold aOut; rw [c81, c73]; rfl)]; done)
                      | trace_state
              · try simp only [decide_eq_true_eq, decide_eq_false_iff_not, Bool.not_eq_true', Bool.not_eq_false', Int.not_lt, Int.not_le, Nat.not_lt, Nat.not_le, Bool.true_eq, Bool.false_eq, reduceCtorEq] at c77
                refine gl_pass rfl rfl rfl rfl rfl rfl ?_
                refine gl_pass rfl rfl rfl rfl rfl rfl ?_
                refine gl_pass rfl rfl rfl rfl rfl rfl ?_
                refine gl_pass rfl rfl rfl rfl rfl rfl ?_
                refine gl_none rfl rfl rfl rfl rfl ?_
                refine gl_none rfl rfl rfl rfl rfl ?_
                refine gl_none rfl rfl rfl rfl rfl ?_
                refine gl_pass rfl rfl rfl rfl rfl rfl ?_
                refine gl_op rfl rfl rfl (op_pure hT rfl) ?_
                refine gl_op rfl rfl rfl (op_pure hT rfl) ?_
                refine gl_nil ?_
                refine hK26 _ _ ?_
                clear hK26; try clear K26
                refine gc_cond_f rfl ?_
                refine gc_skip ?_
                refine hK16 _ _ ?_
                clear hK16; try clear K16
                refine gc_seq fun K30 hK30 => ?_
                refine gc_region ?_
                refine gl_op rfl rfl rfl (op_pure hT rfl) ?_
                refine gl_nil ?_
                refine hK30 _ _ ?_
                clear hK30; try clear K30
                refine gc_ret ?_
                try simp only [x_then_ret, x_block_ret]
                refine gk_ret1 rfl rfl ?_
                refine ⟨?_, hS.below⟩
                first
                  | (exact absurd (c59.symm.trans c67) (by decide))
                  | (rw [c77] at c59; exact absurd c59 (by decide))
                  | (rw [fv_61 (by omega)]; done)
                  | (rw [fv_62 (by omega)]
                     intro hok
                     have hx := hfits.2 hok i (by omega)
                     unfold fitAt at hx
                     rw [hLk, show L.kh = kh by rw [hLe], show L.kw = kw by rw [hLe], Nat.mul_comm 2 i] at hx
                     omega)
                  | (rw [fv_62a (by omega) hok (by rw [hLk]; assumption) (by omega)]; done)
                  | (rw [fv_0a (by omega) hok (by rw [hLk]; assumption) (by omega)]; done)
                  | (rw [fv_64 (by omega) hok (by rw [hLk]; assumption) (by rw [hLa]; assumption)]; done)
                  | (rw [fv_0b (by omega) hok (by rw [hLk]; assumption) (by rw [hLa]; assumption) (by omega)]; done)
                  | (rw [fv_62b (by omega) hok (by rw [hLk]; assumption) (by rw [hLa]; assumption) (by omega) (by rw [hLa]; unfold aOut; first | rw [c81, Bool.true_or] | rw [c73, Bool.or_true])]; done)
                  | (rw [fv_0c (by omega) hok (by rw [hLk]; assumption) (by rw [hLa]; assumption) (by rw [hLa]; unfold aOut; rw [c81, c73]; rfl)]; done)
                  | trace_state
        · try simp only [decide_eq_true_eq, decide_eq_false_iff_not, Bool.not_eq_true', Bool.not_eq_false', Int.not_lt, Int.not_le, Nat.not_lt, Nat.not_le, Bool.true_eq, Bool.false_eq, reduceCtorEq] at c59
          refine gl_pass rfl rfl rfl rfl rfl rfl ?_
          refine gl_pass rfl rfl rfl rfl rfl rfl ?_
          refine gl_pass rfl rfl rfl rfl rfl rfl ?_
          refine gl_pass rfl rfl rfl rfl rfl rfl ?_
          refine gl_op rfl rfl rfl (op_pure hT rfl) ?_
          refine gl_op rfl rfl rfl (op_pure hT rfl) ?_
          refine gl_nil ?_
          refine hK17 _ _ ?_
          clear hK17; try clear K17
          refine gc_cond_f rfl ?_
          refine gc_seq fun K31 hK31 => ?_
          refine gc_region ?_
          refine gl_op rfl rfl rfl (op_pure hT rfl) ?_
          refine gl_op rfl rfl rfl (op_pure hT rfl) ?_
          refine gl_split (t := 67) rfl (fun c67 => ?_) (fun c67 => ?_)
          · try simp only [decide_eq_true_eq, decide_eq_false_iff_not, Bool.not_eq_true', Bool.not_eq_false', Int.not_lt, Int.not_le, Nat.not_lt, Nat.not_le, Bool.true_eq, Bool.false_eq, reduceCtorEq] at c67
            refine gl_un rfl rfl rfl rfl ?_
            refine gl_op rfl rfl rfl (op_fieldB 9 rfl Tryd.underlying65 rfl el62 rfl rfl) ?_
            refine gl_un rfl rfl rfl rfl ?_
            refine gl_op rfl rfl rfl (op_loadB 0 hT hS rfl rfl rfl rfl rfl rfl) ?_
            refine gl_un rfl rfl rfl rfl ?_
            refine gl_callf rfl rfl rfl rfl Tryd.func85 rfl rfl rfl (mnumber_calls a ha64 _) ?_
            rintro _ _ ⟨rfl, n70, rfl⟩
            refine ⟨_, rfl, ?_⟩
            have hS := hS.dr n70
            refine gl_un rfl rfl rfl rfl ?_
            refine gl_op rfl rfl rfl (op_pure hT rfl) ?_
            refine gl_op rfl rfl rfl (op_pure hT rfl) ?_
            refine gl_op rfl rfl rfl (op_pure hT rfl) ?_
            refine gl_nil ?_
            refine hK31 _ _ ?_
            clear hK31; try clear K31
            refine gc_cond rfl rfl (fun c65 => ?_) (fun c65 => ?_)
            · try simp only [decide_eq_true_eq, decide_eq_false_iff_not, Bool.not_eq_true', Bool.not_eq_false', Int.not_lt, Int.not_le, Nat.not_lt, Nat.not_le, Bool.true_eq, Bool.false_eq, reduceCtorEq] at c65
              refine gc_seq fun K32 hK32 => ?_
              refine gc_region ?_
              refine gl_op rfl rfl rfl (op_pure hT rfl) ?_
              refine gl_nil ?_
              refine hK32 _ _ ?_
              clear hK32; try clear K32
              refine gc_ret ?_
              try simp only [x_then_ret, x_block_ret]
              refine gk_ret1 rfl rfl ?_
              refine ⟨?_, hS.below⟩
              first
                | (exact absurd (c59.symm.trans c67) (by decide))
                | (rw [c77] at c59; exact absurd c59 (by decide))
                | (rw [fv_61 (by omega)]; done)
                | (rw [fv_62 (by omega)]
                   intro hok
                   have hx := hfits.2 hok i (by omega)
                   unfold fitAt at hx
                   rw [hLk, show L.kh = kh by rw [hLe], show L.kw = kw by rw [hLe], Nat.mul_comm 2 i] at hx
                   omega)
                | (rw [fv_62a (by omega) hok (by rw [hLk]; assumption) (by omega)]; done)
                | (rw [fv_0a (by omega) hok (by rw [hLk]; assumption) (by omega)]; done)
                | (rw [fv_64 (by omega) hok (by rw [hLk]; assumption) (by rw [hLa]; assumption)]; done)
                | (rw [fv_0b (by omega) hok (by rw [hLk]; assumption) (by rw [hLa]; assumption) (by omega)]; done)
                | (rw [fv_62b (by omega) hok (by rw [hLk]; assumption) (by rw [hLa]; assumption) (by omega) (by rw [hLa]; unfold aOut; first | rw [c81, Bool.true_or] | rw [c73, Bool.or_true])]; done)
                | (rw [fv_0c (by omega) hok (by rw [hLk]; assumption) (by rw [hLa]; assumption) (by rw [hLa]; unfold aOut; rw [c81, c73]; rfl)]; done)
                | trace_state
            · try simp only [decide_eq_true_eq, decide_eq_false_iff_not, Bool.not_eq_true', Bool.not_eq_false', Int.not_lt, Int.not_le, Nat.not_lt, Nat.not_le, Bool.true_eq, Bool.false_eq, reduceCtorEq] at c65
              refine gc_seq fun K33 hK33 => ?_
              refine gc_region ?_
              refine gl_op rfl rfl rfl (op_fieldB 0 rfl Tryd.underlying65 rfl el3 rfl rfl) ?_
              refine gl_op rfl rfl rfl (op_loadB 0 hT hS rfl rfl rfl rfl rfl rfl) ?_
              refine gl_op rfl rfl rfl (op_pure hT rfl) ?_
              refine gl_op rfl rfl rfl (op_pure hT rfl) ?_
              refine gl_split (t := 77) rfl (fun c77 => ?_) (fun c77 => ?_)
              · try simp only [decide_eq_true_eq, decide_eq_false_iff_not, Bool.not_eq_true', Bool.not_eq_false', Int.not_lt, Int.not_le, Nat.not_lt, Nat.not_le, Bool.true_eq, Bool.false_eq, reduceCtorEq] at c77
                refine gl_un rfl rfl rfl rfl ?_
                refine gl_op rfl rfl rfl (op_fieldB 9 rfl Tryd.underlying65 rfl el62 rfl rfl) ?_
                refine gl_un rfl rfl rfl rfl ?_
                refine gl_op rfl rfl rfl (op_loadB 0 hT hS rfl rfl rfl rfl rfl rfl) ?_
                refine gl_un rfl rfl rfl rfl ?_
                refine gl_op rfl rfl rfl (op_fcmp rfl rfl rfl rfl) ?_
                refine gl_un rfl rfl rfl rfl ?_
                refine gl_op rfl rfl rfl (op_pure hT rfl) ?_
                refine gl_split (t := 81) rfl (fun c81 => ?_) (fun c81 => ?_)
                · try simp only [decide_eq_true_eq, decide_eq_false_iff_not, Bool.not_eq_true', Bool.not_eq_false', Int.not_lt, Int.not_le, Nat.not_lt, Nat.not_le, Bool.true_eq, Bool.false_eq, reduceCtorEq] at c81
                  refine gl_pass rfl rfl rfl rfl rfl rfl ?_
                  refine gl_pass rfl rfl rfl rfl rfl rfl ?_
                  refine gl_pass rfl rfl rfl rfl rfl rfl ?_
                  refine gl_un rfl rfl rfl rfl ?_
                  refine gl_op rfl rfl rfl (op_pure hT rfl) ?_
                  refine gl_op rfl rfl rfl (op_pure hT rfl) ?_
                  refine gl_op rfl rfl rfl (op_pure hT rfl) ?_
                  refine gl_nil ?_
                  refine hK33 _ _ ?_
                  clear hK33; try clear K33
                  refine gc_cond_t rfl ?_
                  refine gc_seq fun K34 hK34 => ?_
                  refine gc_region ?_
                  refine gl_op rfl rfl rfl (op_pure hT rfl) ?_
                  refine gl_nil ?_
                  refine hK34 _ _ ?_
                  clear hK34; try clear K34
                  refine gc_ret ?_
                  try simp only [x_then_ret, x_block_ret]
                  refine gk_ret1 rfl rfl ?_
                  refine ⟨?_, hS.below⟩
                  first
                    | (exact absurd (c59.symm.trans c67) (by decide))
                    | (rw [c77] at c59; exact absurd c59 (by decide))
                    | (rw [fv_61 (by omega)]; done)
                    | (rw [fv_62 (by omega)]
                       intro hok
                       have hx := hfits.2 hok i (by omega)
                       unfold fitAt at hx
                       rw [hLk, show L.kh = kh by rw [hLe], show L.kw = kw by rw [hLe], Nat.mul_comm 2 i] at hx
                       omega)
                    | (rw [fv_62a (by omega) hok (by rw [hLk]; assumption) (by omega)]; done)
                    | (rw [fv_0a (by omega) hok (by rw [hLk]; assumption) (by omega)]; done)
                    | (rw [fv_64 (by omega) hok (by rw [hLk]; assumption) (by rw [hLa]; assumption)]; done)
                    | (rw [fv_0b (by omega) hok (by rw [hLk]; assumption) (by rw [hLa]; assumption) (by omega)]; done)
                    | (rw [fv_62b (by omega) hok (by rw [hLk]; assumption) (by rw [hLa]; assumption) (by omega) (by rw [hLa]; unfold aOut; first | rw [c81, Bool.true_or] | rw [c73, Bool.or_true])]; done)
                    | (rw [fv_0c (by omega) hok (by rw [hLk]; assumption) (by rw [hLa]; assumption) (by rw [hLa]; unfold aOut; rw [c81, c73]; rfl)]; done)
                    | trace_state
                · try simp only [decide_eq_true_eq, decide_eq_false_iff_not, Bool.not_eq_true', Bool.not_eq_false', Int.not_lt, Int.not_le, Nat.not_lt, Nat.not_le, Bool.true_eq, Bool.false_eq, reduceCtorEq] at c81
                  refine gl_un rfl rfl rfl rfl ?_
                  refine gl_op rfl rfl rfl (op_fieldB 9 rfl Tryd.underlying65 rfl el62 rfl rfl) ?_
                  refine gl_un rfl rfl rfl rfl ?_
                  refine gl_op rfl rfl rfl (op_loadB 0 hT hS rfl rfl rfl rfl rfl rfl) ?_
                  refine gl_un rfl rfl rfl rfl ?_
                  refine gl_op rfl rfl rfl (op_fcmp rfl rfl rfl rfl) ?_
                  refine gl_un rfl rfl rfl rfl ?_
                  refine gl_op rfl rfl rfl (op_pure hT rfl) ?_
                  refine gl_op rfl rfl rfl (op_pure hT rfl) ?_
                  refine gl_op rfl rfl rfl (op_pure hT rfl) ?_
                  refine gl_nil ?_
                  refine hK33 _ _ ?_
                  clear hK33; try clear K33
                  refine gc_cond rfl rfl (fun c73 => ?_) (fun c73 => ?_)
                  · try simp only [decide_eq_true_eq, decide_eq_false_iff_not, Bool.not_eq_true', Bool.not_eq_false', Int.not_lt, Int.not_le, Nat.not_lt, Nat.not_le, Bool.true_eq, Bool.false_eq, reduceCtorEq] at c73
                    refine gc_seq fun K35 hK35 => ?_
                    refine gc_region ?_
                    refine gl_op rfl rfl rfl (op_pure hT rfl) ?_
                    refine gl_nil ?_
                    refine hK35 _ _ ?_
                    clear hK35; try clear K35
                    refine gc_ret ?_
                    try simp only [x_then_ret, x_block_ret]
                    refine gk_ret1 rfl rfl ?_
                    refine ⟨?_, hS.below⟩
                    first
                      | (exact absurd (c59.symm.trans c67) (by decide))
                      | (rw [c77] at c59; exact absurd c59 (by decide))
                      | (rw [fv_61 (by omega)]; done)
                      | (rw [fv_62 (by omega)]
                         intro hok
                         have hx := hfits.2 hok i (by omega)
                         unfold fitAt at hx
                         rw [hLk, show L.kh = kh by rw [hLe], show L.kw = kw by rw [hLe], Nat.mul_comm 2 i] at hx
                         omega)
                      | (rw [fv_62a (by omega) hok (by rw [hLk]; assumption) (by omega)]; done)
                      | (rw [fv_0a (by omega) hok (by rw [hLk]; assumption) (by omega)]; done)
                      | (rw [fv_64 (by omega) hok (by rw [hLk]; assumption) (by rw [hLa]; assumption)]; done)
                      | (rw [fv_0b (by omega) hok (by rw [hLk]; assumption) (by rw [hLa]; assumption) (by omega)]; done)
                      | (rw [fv_62b (by omega) hok (by rw [hLk]; assumption) (by rw [hLa]; assumption) (by omega) (by rw [hLa]; unfold aOut; first | rw [c81, Bool.true_or] | rw [c73, Bool.or_true])]; done)
                      | (rw [fv_0c (by omega) hok (by rw [hLk]; assumption) (by rw [hLa]; assumption) (by rw [hLa]; unfold aOut; rw [c81, c73]; rfl)]; done)
                      | trace_state
                  · try simp only [decide_eq_true_eq, decide_eq_false_iff_not, Bool.not_eq_true', Bool.not_eq_false', Int.not_lt, Int.not_le, Nat.not_lt, Nat.not_le, Bool.true_eq, Bool.false_eq, reduceCtorEq] at c73
                    refine gc_skip ?_
                    refine hK16 _ _ ?_
                    clear hK16; try clear K16
                    refine gc_seq fun K36 hK36 => ?_
                    refine gc_region ?_
                    refine gl_op rfl rfl rfl (op_pure hT rfl) ?_
                    refine gl_nil ?_
                    refine hK36 _ _ ?_
                    clear hK36; try clear K36
                    refine gc_ret ?_
                    try simp only [x_then_ret, x_block_ret]
                    refine gk_ret1 rfl rfl ?_
                    refine ⟨?_, hS.below⟩
                    first
                      | (exact absurd (c59.symm.trans c67) (by decide))
                      | (rw [c77] at c59; exact absurd c59 (by decide))
                      | (rw [fv_61 (by omega)]; done)
                      | (rw [fv_62 (by omega)]
                         intro hok
                         have hx := hfits.2 hok i (by omega)
                         unfold fitAt at hx
                         rw [hLk, show L.kh = kh by rw [hLe], show L.kw = kw by rw [hLe], Nat.mul_comm 2 i] at hx
                         omega)
                      | (rw [fv_62a (by omega) hok (by rw [hLk]; assumption) (by omega)]; done)
                      | (rw [fv_0a (by omega) hok (by rw [hLk]; assumption) (by omega)]; done)
                      | (rw [fv_64 (by omega) hok (by rw [hLk]; assumption) (by rw [hLa]; assumption)]; done)
                      | (rw [fv_0b (by omega) hok (by rw [hLk]; assumption) (by rw [hLa]; assumption) (by omega)]; done)
                      | (rw [fv_62b (by omega) hok (by rw [hLk]; assumption) (by rw [hLa]; assumption) (by omega) (by rw [hLa]; unfold aOut; first | rw [c81, Bool.true_or] | rw [c73, Bool.or_true])]; done)
                      | (rw [fv_0c (by omega) hok (by rw [hLk]; assumption) (by rw [hLa]; assumption) (by rw [hLa]; unfold aOut; rw [c81, c73]; rfl)]; done)
                      | trace_state
              · try simp only [decide_eq_true_eq, decide_eq_false_iff_not, Bool.not_eq_true', Bool.not_eq_false', Int.not_lt, Int.not_le, Nat.not_lt, Nat.not_le, Bool.true_eq, Bool.false_eq, reduceCtorEq] at c77
                refine gl_pass rfl rfl rfl rfl rfl rfl ?_
                refine gl_pass rfl rfl rfl rfl rfl rfl ?_
                refine gl_pass rfl rfl rfl rfl rfl rfl ?_
                refine gl_pass rfl rfl rfl rfl rfl rfl ?_
                refine gl_none rfl rfl rfl rfl rfl ?_
                refine gl_none rfl rfl rfl rfl rfl ?_
                refine gl_none rfl rfl rfl rfl rfl ?_
                refine gl_pass rfl rfl rfl rfl rfl rfl ?_
                refine gl_op rfl rfl rfl (op_pure hT rfl) ?_
                refine gl_op rfl rfl rfl (op_pure hT rfl) ?_
                refine gl_nil ?_
                refine hK33 _ _ ?_
                clear hK33; try clear K33
                refine gc_cond_f rfl ?_
                refine gc_skip ?_
                refine hK16 _ _ ?_
                clear hK16; try clear K16
                refine gc_seq fun K37 hK37 => ?_
                refine gc_region ?_
                refine gl_op rfl rfl rfl (op_pure hT rfl) ?_
                refine gl_nil ?_
                refine hK37 _ _ ?_
                clear hK37; try clear K37
                refine gc_ret ?_
                try simp only [x_then_ret, x_block_ret]
                refine gk_ret1 rfl rfl ?_
                refine ⟨?_, hS.below⟩
                first
                  | (exact absurd (c59.symm.trans c67) (by decide))
                  | (rw [c77] at c59; exact absurd c59 (by decide))
                  | (rw [fv_61 (by omega)]; done)
                  | (rw [fv_62 (by omega)]
                     intro hok
                     have hx := hfits.2 hok i (by omega)
                     unfold fitAt at hx
                     rw [hLk, show L.kh = kh by rw [hLe], show L.kw = kw by rw [hLe], Nat.mul_comm 2 i] at hx
                     omega)
                  | (rw [fv_62a (by omega) hok (by rw [hLk]; assumption) (by omega)]; done)
                  | (rw [fv_0a (by omega) hok (by rw [hLk]; assumption) (by omega)]; done)
                  | (rw [fv_64 (by omega) hok (by rw [hLk]; assumption) (by rw [hLa]; assumption)]; done)
                  | (rw [fv_0b (by omega) hok (by rw [hLk]; assumption) (by rw [hLa]; assumption) (by omega)]; done)
                  | (rw [fv_62b (by omega) hok (by rw [hLk]; assumption) (by rw [hLa]; assumption) (by omega) (by rw [hLa]; unfold aOut; first | rw [c81, Bool.true_or] | rw [c73, Bool.or_true])]; done)
                  | (rw [fv_0c (by omega) hok (by rw [hLk]; assumption) (by rw [hLa]; assumption) (by rw [hLa]; unfold aOut; rw [c81, c73]; rfl)]; done)
                  | trace_state
          · try simp only [decide_eq_true_eq, decide_eq_false_iff_not, Bool.not_eq_true', Bool.not_eq_false', Int.not_lt, Int.not_le, Nat.not_lt, Nat.not_le, Bool.true_eq, Bool.false_eq, reduceCtorEq] at c67
            refine gl_pass rfl rfl rfl rfl rfl rfl ?_
            refine gl_pass rfl rfl rfl rfl rfl rfl ?_
            refine gl_pass rfl rfl rfl rfl rfl rfl ?_
            refine gl_pass rfl rfl rfl rfl rfl rfl ?_
            refine gl_op rfl rfl rfl (op_pure hT rfl) ?_
            refine gl_op rfl rfl rfl (op_pure hT rfl) ?_
            refine gl_nil ?_
            refine hK31 _ _ ?_
            clear hK31; try clear K31
            refine gc_cond_f rfl ?_
            refine gc_seq fun K38 hK38 => ?_
            refine gc_region ?_
            refine gl_op rfl rfl rfl (op_fieldB 0 rfl Tryd.underlying65 rfl el3 rfl rfl) ?_
            refine gl_op rfl rfl rfl (op_loadB 0 hT hS rfl rfl rfl rfl rfl rfl) ?_
            refine gl_op rfl rfl rfl (op_pure hT rfl) ?_
            refine gl_op rfl rfl rfl (op_pure hT rfl) ?_
            refine gl_split (t := 77) rfl (fun c77 => ?_) (fun c77 => ?_)
            · try simp only [decide_eq_true_eq, decide_eq_false_iff_not, Bool.not_eq_true', Bool.not_eq_false', Int.not_lt, Int.not_le, Nat.not_lt, Nat.not_le, Bool.true_eq, Bool.false_eq, reduceCtorEq] at c77
              refine gl_un rfl rfl rfl rfl ?_
              refine gl_op rfl rfl rfl (op_fieldB 9 rfl Tryd.underlying65 rfl el62 rfl rfl) ?_
              refine gl_un rfl rfl rfl rfl ?_
              refine gl_op rfl rfl rfl (op_loadB 0 hT hS rfl rfl rfl rfl rfl rfl) ?_
              refine gl_un rfl rfl rfl rfl ?_
              refine gl_op rfl rfl rfl (op_fcmp rfl rfl rfl rfl) ?_
              refine gl_un rfl rfl rfl rfl ?_
              refine gl_op rfl rfl rfl (op_pure hT rfl) ?_
              refine gl_split (t := 81) rfl (fun c81 => ?_) (fun c81 => ?_)
              · try simp only [decide_eq_true_eq, decide_eq_false_iff_not, Bool.not_eq_true', Bool.not_eq_false', Int.not_lt, Int.not_le, Nat.not_lt, Nat.not_le, Bool.true_eq, Bool.false_eq, reduceCtorEq] at c81
                refine gl_pass rfl rfl rfl rfl rfl rfl ?_
                refine gl_pass rfl rfl rfl rfl rfl rfl ?_
                refine gl_pass rfl rfl rfl rfl rfl rfl ?_
                refine gl_un rfl rfl rfl rfl ?_
                refine gl_op rfl rfl rfl (op_pure hT rfl) ?_
                refine gl_op rfl rfl rfl (op_pure hT rfl) ?_
                refine gl_op rfl rfl rfl (op_pure hT rfl) ?_
                refine gl_nil ?_
                refine hK38 _ _ ?_
                clear hK38; try clear K38
                refine gc_cond_t rfl ?_
                refine gc_seq fun K39 hK39 => ?_
                refine gc_region ?_
                refine gl_op rfl rfl rfl (op_pure hT rfl) ?_
                refine gl_nil ?_
                refine hK39 _ _ ?_
                clear hK39; try clear K39
                refine gc_ret ?_
                try simp only [x_then_ret, x_block_ret]
                refine gk_ret1 rfl rfl ?_
                refine ⟨?_, hS.below⟩
                first
                  | (exact absurd (c59.symm.trans c67) (by decide))
                  | (rw [c77] at c59; exact absurd c59 (by decide))
                  | (rw [fv_61 (by omega)]; done)
                  | (rw [fv_62 (by omega)]
                     intro hok
                     have hx := hfits.2 hok i (by omega)
                     unfold fitAt at hx
                     rw [hLk, show L.kh = kh by rw [hLe], show L.kw = kw by rw [hLe], Nat.mul_comm 2 i] at hx
                     omega)
                  | (rw [fv_62a (by omega) hok (by rw [hLk]; assumption) (by omega)]; done)
                  | (rw [fv_0a (by omega) hok (by rw [hLk]; assumption) (by omega)]; done)
                  | (rw [fv_64 (by omega) hok (by rw [hLk]; assumption) (by rw [hLa]; assumption)]; done)
                  | (rw [fv_0b (by omega) hok (by rw [hLk]; assumption) (by rw [hLa]; assumption) (by omega)]; done)
                  | (rw [fv_62b (by omega) hok (by rw [hLk]; assumption) (by rw [hLa]; assumption) (by omega) (by rw [hLa]; unfold aOut; first | rw [c81, Bool.true_or] | rw [c73, Bool.or_true])]; done)
                  | (rw [fv_0c (by omega) hok (by rw [hLk]; assumption) (by rw [hLa]; assumption) (by rw [hLa]; unfold aOut; rw [c81, c73]; rfl)]; done)
                  | trace_state
              · try simp only [decide_eq_true_eq, decide_eq_false_iff_not, Bool.not_eq_true', Bool.not_eq_false', Int.not_lt, Int.not_le, Nat.not_lt, Nat.not_le, Bool.true_eq, Bool.false_eq, reduceCtorEq] at c81
                refine gl_un rfl rfl rfl rfl ?_
                refine gl_op rfl rfl rfl (op_fieldB 9 rfl Tryd.underlying65 rfl el62 rfl rfl) ?_
                refine gl_un rfl rfl rfl rfl ?_
                refine gl_op rfl rfl rfl (op_loadB 0 hT hS rfl rfl rfl rfl rfl rfl) ?_
                refine gl_un rfl rfl rfl rfl ?_
                refine gl_op rfl rfl rfl (op_fcmp rfl rfl rfl rfl) ?_
                refine gl_un rfl rfl rfl rfl ?_
                refine gl_op rfl rfl rfl (op_pure hT rfl) ?_
                refine gl_op rfl rfl rfl (op_pure hT rfl) ?_
                refine gl_op rfl rfl rfl (op_pure hT rfl) ?_
                refine gl_nil ?_
                refine hK38 _ _ ?_
                clear hK38; try clear K38
                refine gc_cond rfl rfl (fun c73 => ?_) (fun c73 => ?_)
                · try simp only [decide_eq_true_eq, decide_eq_false_iff_not, Bool.not_eq_true', Bool.not_eq_false', Int.not_lt, Int.not_le, Nat.not_lt, Nat.not_le, Bool.true_eq, Bool.false_eq, reduceCtorEq] at c73
                  refine gc_seq fun K40 hK40 => ?_
                  refine gc_region ?_
                  refine gl_op rfl rfl rfl (op_pure hT rfl) ?_
                  refine gl_nil ?_
                  refine hK40 _ _ ?_
                  clear hK40; try clear K40
                  refine gc_ret ?_
                  try simp only [x_then_ret, x_block_ret]
                  refine gk_ret1 rfl rfl ?_
                  refine ⟨?_, hS.below⟩
                  first
                    | (exact absurd (c59.symm.trans c67) (by decide))
                    | (rw [c77] at c59; exact absurd c59 (by decide))
                    | (rw [fv_61 (by omega)]; done)
                    | (rw [fv_62 (by omega)]
                       intro hok
                       have hx := hfits.2 hok i (by omega)
                       unfold fitAt at hx
                       rw [hLk, show L.kh = kh by rw [hLe], show L.kw = kw by rw [hLe], Nat.mul_comm 2 i] at hx
                       omega)
                    | (rw [fv_62a (by omega) hok (by rw [hLk]; assumption) (by omega)]; done)
                    | (rw [fv_0a (by omega) hok (by rw [hLk]; assumption) (by omega)]; done)
                    | (rw [fv_64 (by omega) hok (by rw [hLk]; assumption) (by rw [hLa]; assumption)]; done)
                    | (rw [fv_0b (by omega) hok (by rw [hLk]; assumption) (by rw [hLa]; assumption) (by omega)]; done)
                    | (rw [fv_62b (by omega) hok (by rw [hLk]; assumption) (by rw [hLa]; assumption) (by omega) (by rw [hLa]; unfold aOut; first | rw [c81, Bool.true_or] | rw [c73, Bool.or_true])]; done)
                    | (rw [fv_0c (by omega) hok (by rw [hLk]; assumption) (by rw [hLa]; assumption) (by rw [hLa]; unfold aOut; rw [c81, c73]; rfl)]; done)
                    | trace_state
                · try simp only [decide_eq_true_eq, decide_eq_false_iff_not, Bool.not_eq_true', Bool.not_eq_false', Int.not_lt, Int.not_le, Nat.not_lt, Nat.not_le, Bool.true_eq, Bool.false_eq, reduceCtorEq] at c73
                  refine gc_skip ?_
                  refine hK16 _ _ ?_
                  clear hK16; try clear K16
                  refine gc_seq fun K41 hK41 => ?_
                  refine gc_region ?_
                  refine gl_op rfl rfl rfl (op_pure hT rfl) ?_
                  refine gl_nil ?_
                  refine hK41 _ _ ?_
                  clear hK41; try clear K41
                  refine gc_ret ?_
                  try simp only [x_then_ret, x_block_ret]
                  refine gk_ret1 rfl rfl ?_
                  refine ⟨?_, hS.below⟩
                  first
                    | (exact absurd (c59.symm.trans c67) (by decide))
                    | (rw [c77] at c59; exact absurd c59 (by decide))
                    | (rw [fv_61 (by omega)]; done)
                    | (rw [fv_62 (by omega)]
                       intro hok
                       have hx := hfits.2 hok i (by omega)
                       unfold fitAt at hx
                       rw [hLk, show L.kh = kh by rw [hLe], show L.kw = kw by rw [hLe], Nat.mul_comm 2 i] at hx
                       omega)
                    | (rw [fv_62a (by omega) hok (by rw [hLk]; assumption) (by omega)]; done)
                    | (rw [fv_0a (by omega) hok (by rw [hLk]; assumption) (by omega)]; done)
                    | (rw [fv_64 (by omega) hok (by rw [hLk]; assumption) (by rw [hLa]; assumption)]; done)
                    | (rw [fv_0b (by omega) hok (by rw [hLk]; assumption) (by rw [hLa]; assumption) (by omega)]; done)
                    | (rw [fv_62b (by omega) hok (by rw [hLk]; assumption) (by rw [hLa]; assumption) (by omega) (by rw [hLa]; unfold aOut; first | rw [c81, Bool.true_or] | rw [c73, Bool.or_true])]; done)
                    | (rw [fv_0c (by omega) hok (by rw [hLk]; assumption) (by rw [hLa]; assumption) (by rw [hLa]; unfold aOut; rw [c81, c73]; rfl)]; done)
                    | trace_state
            · try simp only [decide_eq_true_eq, decide_eq_false_iff_not, Bool.not_eq_true', Bool.not_eq_false', Int.not_lt, Int.not_le, Nat.not_lt, Nat.not_le, Bool.true_eq, Bool.false_eq, reduceCtorEq] at c77
              refine gl_pass rfl rfl rfl rfl rfl rfl ?_
              refine gl_pass rfl rfl rfl rfl rfl rfl ?_
              refine gl_pass rfl rfl rfl rfl rfl rfl ?_
              refine gl_pass rfl rfl rfl rfl rfl rfl ?_
              refine gl_none rfl rfl rfl rfl rfl ?_
              refine gl_none rfl rfl rfl rfl rfl ?_
              refine gl_none rfl rfl rfl rfl rfl ?_
              refine gl_pass rfl rfl rfl rfl rfl rfl ?_
              refine gl_op rfl rfl rfl (op_pure hT rfl) ?_
              refine gl_op rfl rfl rfl (op_pure hT rfl) ?_
              refine gl_nil ?_
              refine hK38 _ _ ?_
              clear hK38; try clear K38
              refine gc_cond_f rfl ?_
              refine gc_skip ?_
              refine hK16 _ _ ?_
              clear hK16; try clear K16
              refine gc_seq fun K42 hK42 => ?_
              refine gc_region ?_
              refine gl_op rfl rfl rfl (op_pure hT rfl) ?_
              refine gl_nil ?_
              refine hK42 _ _ ?_
              clear hK42; try clear K42
              refine gc_ret ?_
              try simp only [x_then_ret, x_block_ret]
              refine gk_ret1 rfl rfl ?_
              refine ⟨?_, hS.below⟩
              first
                | (exact absurd (c59.symm.trans c67) (by decide))
                | (rw [c77] at c59; exact absurd c59 (by decide))
                | (rw [fv_61 (by omega)]; done)
                | (rw [fv_62 (by omega)]
                   intro hok
                   have hx := hfits.2 hok i (by omega)
                   unfold fitAt at hx
                   rw [hLk, show L.kh = kh by rw [hLe], show L.kw = kw by rw [hLe], Nat.mul_comm 2 i] at hx
                   omega)
                | (rw [fv_62a (by omega) hok (by rw [hLk]; assumption) (by omega)]; done)
                | (rw [fv_0a (by omega) hok (by rw [hLk]; assumption) (by omega)]; done)
                | (rw [fv_64 (by omega) hok (by rw [hLk]; assumption) (by rw [hLa]; assumption)]; done)
                | (rw [fv_0b (by omega) hok (by rw [hLk]; assumption) (by rw [hLa]; assumption) (by omega)]; done)
                | (rw [fv_62b (by omega) hok (by rw [hLk]; assumption) (by rw [hLa]; assumption) (by omega) (by rw [hLa]; unfold aOut; first | rw [c81, Bool.true_or] | rw [c73, Bool.or_true])]; done)
                | (rw [fv_0c (by omega) hok (by rw [hLk]; assumption) (by rw [hLa]; assumption) (by rw [hLa]; unfold aOut; rw [c81, c73]; rfl)]; done)
                | trace_state
set_option maxHeartbeats 2000000 in
set_option maxRecDepth 100000 in
theorem mOut_calls (L : Ly) (s : Sh) (w : World) (hL : L.ok) (hs : s.ok) : Calls Tryd.prog 77 ⟨[.agg ⟨lyC L⟩, .agg ⟨shC s⟩]⟩ w fun e w' => e = .returned (.tuple #[.agg ⟨shC (outV L s).1⟩, .int .i64 (outV L s).2]) ∧ Below w.heap.size w w' := by
  have hhc := hs.c
  have hhh := hs.h
  have hhw := hs.w
  refine gc_enter (N := 102) Tryd.func77 rfl rfl rfl [(0, _), (1, _)] rfl ?_
  have hS := St.start w
  refine gc_seq fun K1 hK1 => ?_
  refine gc_region ?_
  refine gl_box hS rfl rfl rfl rfl rfl fun g2 w2 hS => ?_
  refine gl_box hS rfl rfl rfl rfl rfl fun g3 w3 hS => ?_
  refine gl_alloc el61 hS rfl rfl rfl rfl fun g4 w4 hS => ?_
  refine gl_op rfl rfl rfl (op_pure hT rfl) ?_
  refine gl_nil ?_
  refine hK1 _ _ ?_
  clear hK1; try clear K1
  refine gc_seq fun K2 hK2 => ?_
  refine gc_seq fun K3 hK3 => ?_
  refine gc_region ?_
  refine gl_op rfl rfl rfl (op_loadG 0 Tryd.underlying65 rfl el65 hS rfl rfl rfl rfl rfl) ?_
  refine gl_callf rfl rfl rfl rfl Tryd.func91 rfl rfl rfl (fields_calls L _ hL) ?_
  rintro _ w15 ⟨rfl, hb15⟩
  refine ⟨_, rfl, ?_⟩
  have hS := hS.grown hb15
  refine gl_op rfl rfl rfl (op_pure hT rfl) ?_
  refine gl_nil ?_
  refine hK3 _ _ ?_
  clear hK3; try clear K3
  refine gc_seq fun K4 hK4 => ?_
  refine gc_region ?_
  refine gl_op rfl rfl rfl (op_pure hT rfl) ?_
  refine gl_op rfl rfl rfl (op_pure hT rfl) ?_
  refine gl_nil ?_
  refine hK4 _ _ ?_
  clear hK4; try clear K4
  refine gc_cond rfl rfl (fun c17 => ?_) (fun c17 => ?_)
  · try simp only [decide_eq_true_eq, decide_eq_false_iff_not, Bool.not_eq_true', Bool.not_eq_false', Int.not_lt, Int.not_le, Nat.not_lt, Nat.not_le, Bool.true_eq, Bool.false_eq, reduceCtorEq] at c17
    refine gc_seq fun K5 hK5 => ?_
    refine gc_region ?_
    refine gl_op rfl rfl rfl (op_buildG rfl plan61 rfl rfl) ?_
    refine gl_op rfl rfl rfl (op_pure hT rfl) ?_
    refine gl_storeM 2 hS el61 rfl rfl rfl rfl rfl rfl rfl rfl rfl fun wmodel_go_86 hS => ?_
    refine gl_op rfl rfl rfl (op_pure hT rfl) ?_
    refine gl_nil ?_
    refine hK5 _ _ ?_
    clear hK5; try clear K5
    refine gc_ret ?_
    try simp only [x_then_ret, x_block_ret]
    refine gk_res2 rfl (⟨_, rfl, run_loadVarB 2 Tryd.underlying61 rfl el61 hS rfl rfl rfl⟩) (rfl) ?_
    refine ⟨?_, hS.below⟩
    unfold outV
    rw [if_pos c17]
    rfl
  · try simp only [decide_eq_true_eq, decide_eq_false_iff_not, Bool.not_eq_true', Bool.not_eq_false', Int.not_lt, Int.not_le, Nat.not_lt, Nat.not_le, Bool.true_eq, Bool.false_eq, reduceCtorEq] at c17
    obtain ⟨hk1, hk2, hfo⟩ := fv_zero c17
    have hout := fld_out hfo
    refine gc_skip ?_
    refine hK2 _ _ ?_
    clear hK2; try clear K2
    refine gc_seq fun K6 hK6 => ?_
    refine gc_region ?_
    refine gl_op rfl rfl rfl (op_loadG 1 Tryd.underlying61 rfl el61 hS rfl rfl rfl rfl rfl) ?_
    refine gl_callf rfl rfl rfl rfl Tryd.func52 rfl rfl rfl (mSize_calls s _ hs) ?_
    rintro _ w22 ⟨rfl, hb22⟩
    refine ⟨_, rfl, ?_⟩
    have hS := hS.grown hb22
    refine gl_op rfl rfl rfl (op_pure hT rfl) ?_
    refine gl_op rfl rfl rfl (op_pure hT rfl) ?_
    refine gl_op rfl rfl rfl (op_pure hT rfl) ?_
    refine gl_op rfl rfl rfl (op_pure hT rfl) ?_
    refine gl_op rfl rfl rfl (op_pure hT rfl) ?_
    refine gl_nil ?_
    refine hK6 _ _ ?_
    clear hK6; try clear K6
    refine gc_seq fun K7 hK7 => ?_
    refine gc_seq fun K8 hK8 => ?_
    refine gc_region ?_
    refine gl_op rfl rfl rfl (op_pure hT rfl) ?_
    refine gl_op rfl rfl rfl (op_pure hT rfl) ?_
    refine gl_nil ?_
    refine hK8 _ _ ?_
    clear hK8; try clear K8
    refine gc_cond rfl rfl (fun c26 => ?_) (fun c26 => ?_)
    · try simp only [decide_eq_true_eq, decide_eq_false_iff_not, Bool.not_eq_true', Bool.not_eq_false', Int.not_lt, Int.not_le, Nat.not_lt, Nat.not_le, Bool.true_eq, Bool.false_eq, reduceCtorEq] at c26
      refine gc_seq fun K9 hK9 => ?_
      refine gc_region ?_
      refine gl_op rfl rfl rfl (op_buildG rfl plan61 rfl rfl) ?_
      refine gl_op rfl rfl rfl (op_pure hT rfl) ?_
      refine gl_storeM 2 hS el61 rfl rfl rfl rfl rfl rfl rfl rfl rfl fun wmodel_go_90 hS => ?_
      refine gl_op rfl rfl rfl (op_pure hT rfl) ?_
      refine gl_nil ?_
      refine hK9 _ _ ?_
      clear hK9; try clear K9
      refine gc_ret ?_
      try simp only [x_then_ret, x_block_ret]
      refine gk_res2 rfl (⟨_, rfl, run_loadVarB 2 Tryd.underlying61 rfl el61 hS rfl rfl rfl⟩) (rfl) ?_
      refine ⟨?_, hS.below⟩
      have hb := sizeV_bad c26
      unfold outV
      rw [if_neg (by rw [c17]; simp), if_pos hb.1, hb.2]
      rfl
    · try simp only [decide_eq_true_eq, decide_eq_false_iff_not, Bool.not_eq_true', Bool.not_eq_false', Int.not_lt, Int.not_le, Nat.not_lt, Nat.not_le, Bool.true_eq, Bool.false_eq, reduceCtorEq] at c26
      have hsz := sizeV_ok c26
      have hgs := sz_good hsz.1
      rw [hsz.2]
      refine gc_skip ?_
      refine hK7 _ _ ?_
      clear hK7; try clear K7
      refine gc_seq fun K10 hK10 => ?_
      refine gc_region ?_
      refine gl_op rfl rfl rfl (op_loadG 1 Tryd.underlying61 rfl el61 hS rfl rfl rfl rfl rfl) ?_
      refine gl_alloc el61 hS rfl rfl rfl rfl fun g9 w9 hS => ?_
      refine gl_storeM 3 hS el61 rfl rfl rfl rfl rfl rfl rfl rfl rfl fun wmodel_go_92 hS => ?_
      refine gl_nil ?_
      refine hK10 _ _ ?_
      clear hK10; try clear K10
      refine gc_cut (fun a' w' => Fr 102 a' [(2, .pointer (some ⟨g2, 0, none⟩)), (3, .pointer (some ⟨g3, 0, none⟩)), (4, .pointer (some ⟨g4, 0, none⟩)), (7, .int .i64 (s.c * s.h * s.w)), (9, .pointer (some ⟨g9, 0, none⟩))] ∧ (¬ (winV L.k ∧ (s.h + 2 * L.ph - L.kh < 0 ∨ s.w + 2 * L.pw - L.kw < 0))) ∧
      St w.heap.size w w' [.blk g2 65 (lyC L), .blk g3 61 (shC s), .blk g4 61 (shC ⟨0, 0, 0⟩), .blk g9 61 (shC (if winV L.k then ⟨s.c, (s.h + 2 * L.ph - L.kh) / L.sh + 1, (s.w + 2 * L.pw - L.kw) / L.sw + 1⟩ else s))]) ?_ ?_
      · skip
        refine gc_seq fun K11 hK11 => ?_
        refine gc_region ?_
        refine gl_op rfl rfl rfl (op_fieldB 0 rfl Tryd.underlying65 rfl el3 rfl rfl) ?_
        refine gl_op rfl rfl rfl (op_loadB 0 hT hS rfl rfl rfl rfl rfl rfl) ?_
        refine gl_callf rfl rfl rfl rfl Tryd.func92 rfl rfl rfl (windowed_calls L.k _) ?_
        rintro _ _ ⟨rfl, n32, rfl⟩
        refine ⟨_, rfl, ?_⟩
        have hS := hS.dr n32
        refine gl_nil ?_
        refine hK11 _ _ ?_
        clear hK11; try clear K11
        refine gc_cond rfl rfl (fun c32 => ?_) (fun c32 => ?_)
        · try simp only [decide_eq_true_eq, decide_eq_false_iff_not, Bool.not_eq_true', Bool.not_eq_false', Int.not_lt, Int.not_le, Nat.not_lt, Nat.not_le, Bool.true_eq, Bool.false_eq, reduceCtorEq] at c32
          have hwn := fld_win hfo c32
          refine gc_seq fun K12 hK12 => ?_
          refine gc_anyS hS (by kernel_rfl) rfl fun nq9 hK => ?_
          have hS := hS.dr nq9
          refine ga_take 0 rfl rfl rfl rfl (by kernel_rfl) (fun _ _ _ _ h => h) hK (fun w1 hS => op_fieldB 1 rfl Tryd.underlying61 rfl el3 rfl rfl) ?_
          refine ga_take 1 rfl rfl rfl rfl (by kernel_rfl) (fun _ _ _ _ h => h) hK (fun w1 hS => op_loadB 1 hT hS rfl rfl rfl rfl rfl rfl) ?_
          refine ga_take 2 rfl rfl rfl rfl (by kernel_rfl) (fun _ _ _ _ h => h) hK (fun w1 hS => op_fieldB 6 rfl Tryd.underlying65 rfl el3 rfl rfl) ?_
          refine ga_take 3 rfl rfl rfl rfl (by kernel_rfl) (fun _ _ _ _ h => h) hK (fun w1 hS => op_loadB 0 hT hS rfl rfl rfl rfl rfl rfl) ?_
          refine ga_take 4 rfl rfl rfl rfl (by kernel_rfl) (fun _ _ _ _ h => h) hK (fun w1 hS => (by first | exact op_fit hT rfl (by omega) | exact op_pure hT rfl)) ?_
          refine ga_take 5 rfl rfl rfl rfl (by kernel_rfl) (fun _ _ _ _ h => h) hK (fun w1 hS => (by first | exact op_fit hT rfl (by omega) | exact op_pure hT rfl)) ?_
          refine ga_take 6 rfl rfl rfl rfl (by kernel_rfl) (fun _ _ _ _ h => h) hK (fun w1 hS => op_fieldB 2 rfl Tryd.underlying65 rfl el3 rfl rfl) ?_
          refine ga_take 7 rfl rfl rfl rfl (by kernel_rfl) (fun _ _ _ _ h => h) hK (fun w1 hS => op_loadB 0 hT hS rfl rfl rfl rfl rfl rfl) ?_
          refine ga_take 8 rfl rfl rfl rfl (by kernel_rfl) (fun _ _ _ _ h => h) hK (fun w1 hS => (by first | exact op_fit hT rfl (by omega) | exact op_pure hT rfl)) ?_
          refine ga_take 9 rfl rfl rfl rfl (by kernel_rfl) (fun _ _ _ _ h => h) hK (fun w1 hS => op_fieldB 2 rfl Tryd.underlying61 rfl el3 rfl rfl) ?_
          refine ga_take 10 rfl rfl rfl rfl (by kernel_rfl) (fun _ _ _ _ h => h) hK (fun w1 hS => op_loadB 1 hT hS rfl rfl rfl rfl rfl rfl) ?_
          refine ga_take 11 rfl rfl rfl rfl (by kernel_rfl) (fun _ _ _ _ h => h) hK (fun w1 hS => op_fieldB 7 rfl Tryd.underlying65 rfl el3 rfl rfl) ?_
          refine ga_take 12 rfl rfl rfl rfl (by kernel_rfl) (fun _ _ _ _ h => h) hK (fun w1 hS => op_loadB 0 hT hS rfl rfl rfl rfl rfl rfl) ?_
          refine ga_take 13 rfl rfl rfl rfl (by kernel_rfl) (fun _ _ _ _ h => h) hK (fun w1 hS => (by first | exact op_fit hT rfl (by omega) | exact op_pure hT rfl)) ?_
          refine ga_take 14 rfl rfl rfl rfl (by kernel_rfl) (fun _ _ _ _ h => h) hK (fun w1 hS => (by first | exact op_fit hT rfl (by omega) | exact op_pure hT rfl)) ?_
          refine ga_take 15 rfl rfl rfl rfl (by kernel_rfl) (fun _ _ _ _ h => h) hK (fun w1 hS => op_fieldB 3 rfl Tryd.underlying65 rfl el3 rfl rfl) ?_
          refine ga_take 16 rfl rfl rfl rfl (by kernel_rfl) (fun _ _ _ _ h => h) hK (fun w1 hS => op_loadB 0 hT hS rfl rfl rfl rfl rfl rfl) ?_
          refine ga_take 17 rfl rfl rfl rfl (by kernel_rfl) (fun _ _ _ _ h => h) hK (fun w1 hS => (by first | exact op_fit hT rfl (by omega) | exact op_pure hT rfl)) ?_
          refine ga_take 18 rfl rfl rfl rfl (by kernel_rfl) (fun _ _ _ _ h => h) hK (fun w1 hS => op_pure hT rfl) ?_
          refine ga_take 19 rfl rfl rfl rfl (by kernel_rfl) (fun _ _ _ _ h => h) hK (fun w1 hS => op_pure hT rfl) ?_
          refine ga_done (by kernel_rfl) ?_
          refine hK12 _ _ ?_
          clear hK12; try clear K12
          refine gc_seq fun K13 hK13 => ?_
          refine gc_seq fun K14 hK14 => ?_
          refine gc_region ?_
          refine gl_op rfl rfl rfl (op_pure hT rfl) ?_
          refine gl_op rfl rfl rfl (op_pure hT rfl) ?_
          refine gl_op rfl rfl rfl (op_pure hT rfl) ?_
          refine gl_split (t := 53) rfl (fun c53 => ?_) (fun c53 => ?_)
          · try simp only [decide_eq_true_eq, decide_eq_false_iff_not, Bool.not_eq_true', Bool.not_eq_false', Int.not_lt, Int.not_le, Nat.not_lt, Nat.not_le, Bool.true_eq, Bool.false_eq, reduceCtorEq] at c53
            refine gl_pass rfl rfl rfl rfl rfl rfl ?_
            refine gl_pass rfl rfl rfl rfl rfl rfl ?_
            refine gl_op rfl rfl rfl (op_pure hT rfl) ?_
            refine gl_nil ?_
            refine hK14 _ _ ?_
            clear hK14; try clear K14
            refine gc_cond_t rfl ?_
            refine gc_seq fun K15 hK15 => ?_
            refine gc_region ?_
            refine gl_op rfl rfl rfl (op_buildG rfl plan61 rfl rfl) ?_
            refine gl_storeM 2 hS el61 rfl rfl rfl rfl rfl rfl rfl rfl rfl fun wmodel_go_96 hS => ?_
            refine gl_op rfl rfl rfl (op_pure hT rfl) ?_
            refine gl_nil ?_
            refine hK15 _ _ ?_
            clear hK15; try clear K15
            refine gc_ret ?_
            try simp only [x_then_ret, x_block_ret]
            refine gk_res2 rfl (⟨_, rfl, run_loadVarB 2 Tryd.underlying61 rfl el61 hS rfl rfl rfl⟩) (rfl) ?_
            refine ⟨?_, hS.below⟩
            unfold outV
            rw [if_neg (by rw [c17]; simp), if_neg hsz.1, if_pos ⟨c32, by omega⟩]
            rfl
          · try simp only [decide_eq_true_eq, decide_eq_false_iff_not, Bool.not_eq_true', Bool.not_eq_false', Int.not_lt, Int.not_le, Nat.not_lt, Nat.not_le, Bool.true_eq, Bool.false_eq, reduceCtorEq] at c53
            refine gl_un rfl rfl rfl rfl ?_
            refine gl_op rfl rfl rfl (op_pure hT rfl) ?_
            refine gl_un rfl rfl rfl rfl ?_
            refine gl_op rfl rfl rfl (op_pure hT rfl) ?_
            refine gl_op rfl rfl rfl (op_pure hT rfl) ?_
            refine gl_nil ?_
            refine hK14 _ _ ?_
            clear hK14; try clear K14
            refine gc_cond rfl rfl (fun c56 => ?_) (fun c56 => ?_)
            · try simp only [decide_eq_true_eq, decide_eq_false_iff_not, Bool.not_eq_true', Bool.not_eq_false', Int.not_lt, Int.not_le, Nat.not_lt, Nat.not_le, Bool.true_eq, Bool.false_eq, reduceCtorEq] at c56
              refine gc_seq fun K16 hK16 => ?_
              refine gc_region ?_
              refine gl_op rfl rfl rfl (op_buildG rfl plan61 rfl rfl) ?_
              refine gl_storeM 2 hS el61 rfl rfl rfl rfl rfl rfl rfl rfl rfl fun wmodel_go_96 hS => ?_
              refine gl_op rfl rfl rfl (op_pure hT rfl) ?_
              refine gl_nil ?_
              refine hK16 _ _ ?_
              clear hK16; try clear K16
              refine gc_ret ?_
              try simp only [x_then_ret, x_block_ret]
              refine gk_res2 rfl (⟨_, rfl, run_loadVarB 2 Tryd.underlying61 rfl el61 hS rfl rfl rfl⟩) (rfl) ?_
              refine ⟨?_, hS.below⟩
              unfold outV
              rw [if_neg (by rw [c17]; simp), if_neg hsz.1, if_pos ⟨c32, by omega⟩]
              rfl
            · try simp only [decide_eq_true_eq, decide_eq_false_iff_not, Bool.not_eq_true', Bool.not_eq_false', Int.not_lt, Int.not_le, Nat.not_lt, Nat.not_le, Bool.true_eq, Bool.false_eq, reduceCtorEq] at c56
              refine gc_skip ?_
              refine hK13 _ _ ?_
              clear hK13; try clear K13
              refine gc_anyS (hS.blank 3) (by kernel_rfl) rfl fun nq12 hK => ?_
              have hS := hS.dr nq12
              refine ga_take 0 rfl rfl rfl rfl (by kernel_rfl) (fun _ _ _ _ h => h) hK (fun w1 hS => op_pure hT rfl) ?_
              refine ga_take 1 rfl rfl rfl rfl (by kernel_rfl) (fun _ _ _ _ h => h) hK (fun w1 hS => op_fieldB 4 rfl Tryd.underlying65 rfl el3 rfl rfl) ?_
              refine ga_take 2 rfl rfl rfl rfl (by kernel_rfl) (fun _ _ _ _ h => h) hK (fun w1 hS => op_loadB 0 hT hS rfl rfl rfl rfl rfl rfl) ?_
              refine ga_take 3 rfl rfl rfl rfl (by kernel_rfl) (fun _ _ _ _ h => h) hK (fun w1 hS => (by first | exact op_quo hT rfl (by omega) (by omega) | exact op_pure hT rfl | exact op_quoS rfl rfl rfl (by omega) (by omega))) ?_
              have hd61 := div_bd (a := s.h + 2 * L.ph - L.kh) (b := L.sh) (by omega) (by omega)
              refine ga_take 4 rfl rfl rfl rfl (by kernel_rfl) (fun _ _ _ _ h => h) hK (fun w1 hS => (by first | exact op_fit hT rfl (by omega) | exact op_pure hT rfl)) ?_
              refine ga_take 5 rfl rfl rfl rfl (by kernel_rfl) (fun _ _ _ _ h => h) hK (fun w1 hS => op_pure hT rfl) ?_
              refine ga_take 6 rfl rfl rfl rfl (by kernel_rfl) (fun _ _ _ _ h => h) hK (fun w1 hS => op_fieldB 5 rfl Tryd.underlying65 rfl el3 rfl rfl) ?_
              refine ga_take 7 rfl rfl rfl rfl (by kernel_rfl) (fun _ _ _ _ h => h) hK (fun w1 hS => op_loadB 0 hT hS rfl rfl rfl rfl rfl rfl) ?_
              refine ga_take 8 rfl rfl rfl rfl (by kernel_rfl) (fun _ _ _ _ h => h) hK (fun w1 hS => (by first | exact op_quo hT rfl (by omega) (by omega) | exact op_pure hT rfl | exact op_quoS rfl rfl rfl (by omega) (by omega))) ?_
              have hd66 := div_bd (a := s.w + 2 * L.pw - L.kw) (b := L.sw) (by omega) (by omega)
              refine ga_take 9 rfl rfl rfl rfl (by kernel_rfl) (fun _ _ _ _ h => h) hK (fun w1 hS => (by first | exact op_fit hT rfl (by omega) | exact op_pure hT rfl)) ?_
              refine ga_take 10 rfl rfl rfl rfl (by kernel_rfl) (fun _ _ _ _ h => h) hK (fun w1 hS => op_fieldB 1 rfl Tryd.underlying61 rfl el3 rfl rfl) ?_
              refine ga_one 11 (by kernel_rfl) rfl ?_
              refine gl_store 3 hS el3.cellsOf.1 el3.cellsOf.2 rfl rfl rfl rfl rfl rfl rfl rfl fun wmodel_go_98 hS => ?_
              refine gl_nil ?_
              refine ga_next ((hS.blank 3).pre 4) fun hK => ?_
              refine ga_take 12 rfl rfl rfl rfl (by kernel_rfl) (fun _ _ _ _ h => h) hK (fun w1 hS => op_fieldB 2 rfl Tryd.underlying61 rfl el3 rfl rfl) ?_
              refine ga_one 13 (by kernel_rfl) rfl ?_
              refine gl_store 3 hS el3.cellsOf.1 el3.cellsOf.2 rfl rfl rfl rfl rfl rfl rfl rfl fun wmodel_go_98 hS => ?_
              refine gl_nil ?_
              refine ga_next ((hS.blank 3).pre 4) fun hK => ?_
              refine ga_done (by kernel_rfl) ?_
              intro a' ha
              by_cases hw : winV L.k
              · first
                  | exact absurd hw c32
                  | (refine ⟨ha.sub ⟨rfl, rfl, rfl, rfl, rfl, trivial⟩, fun h => absurd h.2 (by omega), ?_⟩
                     rw [if_pos hw]
                     exact hS)
              · first
                  | exact absurd c32 hw
                  | (refine ⟨ha.sub ⟨rfl, rfl, rfl, rfl, rfl, trivial⟩, fun h => absurd h.1 hw, ?_⟩
                     rw [if_neg hw]
                     exact hS)
        · try simp only [decide_eq_true_eq, decide_eq_false_iff_not, Bool.not_eq_true', Bool.not_eq_false', Int.not_lt, Int.not_le, Nat.not_lt, Nat.not_le, Bool.true_eq, Bool.false_eq, reduceCtorEq] at c32
          refine gc_skip ?_
          intro a' ha
          by_cases hw : winV L.k
          · first
              | exact absurd hw c32
              | (refine ⟨ha.sub ⟨rfl, rfl, rfl, rfl, rfl, trivial⟩, fun h => absurd h.2 (by omega), ?_⟩
                 rw [if_pos hw]
                 exact hS)
          · first
              | exact absurd c32 hw
              | (refine ⟨ha.sub ⟨rfl, rfl, rfl, rfl, rfl, trivial⟩, fun h => absurd h.1 hw, ?_⟩
                 rw [if_neg hw]
                 exact hS)
      rintro a' w1 ⟨hF, hnw, hS⟩
      refine gc_of hF ?_
      clear hF
      generalize hmid : (if winV L.k then (⟨s.c, (s.h + 2 * L.ph - L.kh) / L.sh + 1, (s.w + 2 * L.pw - L.kw) / L.sw + 1⟩ : Sh) else s) = mid at hS
      refine gc_cut (fun a' w' => Fr 102 a' [(4, .pointer (some ⟨g4, 0, none⟩)), (9, .pointer (some ⟨g9, 0, none⟩))] ∧ (¬ (L.k = 6 ∧ (s.c * s.h * s.w) % 2 = 1)) ∧
      St w.heap.size w w' [.blk g2 65 (lyC L), .blk g3 61 (shC s), .blk g4 61 (shC ⟨0, 0, 0⟩), .blk g9 61 (shC (outS L s))]) ?_ ?_
      · skip
        refine gc_seq fun K17 hK17 => ?_
        refine gc_region ?_
        refine gl_op rfl rfl rfl (op_fieldB 0 rfl Tryd.underlying65 rfl el3 rfl rfl) ?_
        refine gl_op rfl rfl rfl (op_loadB 0 hT hS rfl rfl rfl rfl rfl rfl) ?_
        refine gl_nil ?_
        refine hK17 _ _ ?_
        clear hK17; try clear K17
        refine gc_block ?_
        refine gc_seq fun K18 hK18 => ?_
        refine gc_region ?_
        refine gl_op rfl rfl rfl (op_pure hT rfl) ?_
        refine gl_op rfl rfl rfl (op_pure hT rfl) ?_
        refine gl_nil ?_
        refine hK18 _ _ ?_
        clear hK18; try clear K18
        refine gc_cond rfl rfl (fun c72 => ?_) (fun c72 => ?_)
        · try simp only [decide_eq_true_eq, decide_eq_false_iff_not, Bool.not_eq_true', Bool.not_eq_false', Int.not_lt, Int.not_le, Nat.not_lt, Nat.not_le, Bool.true_eq, Bool.false_eq, reduceCtorEq] at c72
          refine gc_region ?_
          refine gl_op rfl rfl rfl (op_fieldB 1 rfl Tryd.underlying65 rfl el3 rfl rfl) ?_
          refine gl_op rfl rfl rfl (op_loadB 0 hT hS rfl rfl rfl rfl rfl rfl) ?_
          refine gl_op rfl rfl rfl (op_fieldB 0 rfl Tryd.underlying61 rfl el3 rfl rfl) ?_
          refine gl_store 3 hS el3.cellsOf.1 el3.cellsOf.2 rfl rfl rfl rfl rfl rfl rfl rfl fun wmodel_go_102 hS => ?_
          refine gl_nil ?_
          intro a' ha
          first
            | (refine ⟨ha.sub ⟨rfl, rfl, trivial⟩, fun h => absurd h.1 (by omega), ?_⟩
               rw [show outS L s = ⟨L.out, mid.h, mid.w⟩ by unfold outS; rw [if_neg (by omega), if_neg (by omega), if_pos (show winV L.k from .inl c72), if_pos c72]; rw [if_pos (show winV L.k from .inl c72)] at hmid; rw [← hmid]]
               exact hS)
            | (refine ⟨ha.sub ⟨rfl, rfl, trivial⟩, fun h => absurd h.1 (by omega), ?_⟩
               rw [show outS L s = ⟨L.out, 1, 1⟩ by unfold outS; rw [if_pos c77]]
               exact hS)
            | (refine ⟨ha.sub ⟨rfl, rfl, trivial⟩, fun h => absurd h.2 (by omega), ?_⟩
               rw [show outS L s = ⟨2 * L.out, 1, 1⟩ by unfold outS; rw [if_neg (by omega), if_pos c82]]
               exact hS)
            | (refine ⟨ha.sub ⟨rfl, rfl, trivial⟩, fun h => absurd h.1 c82, ?_⟩
               rw [show outS L s = mid by
                 unfold outS
                 rw [if_neg c77, if_neg c82]
                 rw [← hmid]
                 by_cases hw : winV L.k
                 · rw [if_pos hw, if_pos hw, if_neg c72]
                 · rw [if_neg hw, if_neg hw]]
               exact hS)
        · try simp only [decide_eq_true_eq, decide_eq_false_iff_not, Bool.not_eq_true', Bool.not_eq_false', Int.not_lt, Int.not_le, Nat.not_lt, Nat.not_le, Bool.true_eq, Bool.false_eq, reduceCtorEq] at c72
          refine gc_seq fun K19 hK19 => ?_
          refine gc_region ?_
          refine gl_op rfl rfl rfl (op_pure hT rfl) ?_
          refine gl_op rfl rfl rfl (op_pure hT rfl) ?_
          refine gl_nil ?_
          refine hK19 _ _ ?_
          clear hK19; try clear K19
          refine gc_cond rfl rfl (fun c77 => ?_) (fun c77 => ?_)
          · try simp only [decide_eq_true_eq, decide_eq_false_iff_not, Bool.not_eq_true', Bool.not_eq_false', Int.not_lt, Int.not_le, Nat.not_lt, Nat.not_le, Bool.true_eq, Bool.false_eq, reduceCtorEq] at c77
            refine gc_region ?_
            refine gl_op rfl rfl rfl (op_fieldB 1 rfl Tryd.underlying65 rfl el3 rfl rfl) ?_
            refine gl_op rfl rfl rfl (op_loadB 0 hT hS rfl rfl rfl rfl rfl rfl) ?_
            refine gl_op rfl rfl rfl (op_buildG rfl plan61 rfl rfl) ?_
            refine gl_storeM 3 hS el61 rfl rfl rfl rfl rfl rfl rfl rfl rfl fun wmodel_go_104 hS => ?_
            refine gl_nil ?_
            intro a' ha
            first
              | (refine ⟨ha.sub ⟨rfl, rfl, trivial⟩, fun h => absurd h.1 (by omega), ?_⟩
                 rw [show outS L s = ⟨L.out, mid.h, mid.w⟩ by unfold outS; rw [if_neg (by omega), if_neg (by omega), if_pos (show winV L.k from .inl c72), if_pos c72]; rw [if_pos (show winV L.k from .inl c72)] at hmid; rw [← hmid]]
                 exact hS)
              | (refine ⟨ha.sub ⟨rfl, rfl, trivial⟩, fun h => absurd h.1 (by omega), ?_⟩
                 rw [show outS L s = ⟨L.out, 1, 1⟩ by unfold outS; rw [if_pos c77]]
                 exact hS)
              | (refine ⟨ha.sub ⟨rfl, rfl, trivial⟩, fun h => absurd h.2 (by omega), ?_⟩
                 rw [show outS L s = ⟨2 * L.out, 1, 1⟩ by unfold outS; rw [if_neg (by omega), if_pos c82]]
                 exact hS)
              | (refine ⟨ha.sub ⟨rfl, rfl, trivial⟩, fun h => absurd h.1 c82, ?_⟩
                 rw [show outS L s = mid by
                   unfold outS
                   rw [if_neg c77, if_neg c82]
                   rw [← hmid]
                   by_cases hw : winV L.k
                   · rw [if_pos hw, if_pos hw, if_neg c72]
                   · rw [if_neg hw, if_neg hw]]
                 exact hS)
          · try simp only [decide_eq_true_eq, decide_eq_false_iff_not, Bool.not_eq_true', Bool.not_eq_false', Int.not_lt, Int.not_le, Nat.not_lt, Nat.not_le, Bool.true_eq, Bool.false_eq, reduceCtorEq] at c77
            refine gc_seq fun K20 hK20 => ?_
            refine gc_region ?_
            refine gl_op rfl rfl rfl (op_pure hT rfl) ?_
            refine gl_op rfl rfl rfl (op_pure hT rfl) ?_
            refine gl_nil ?_
            refine hK20 _ _ ?_
            clear hK20; try clear K20
            refine gc_cond rfl rfl (fun c82 => ?_) (fun c82 => ?_)
            · try simp only [decide_eq_true_eq, decide_eq_false_iff_not, Bool.not_eq_true', Bool.not_eq_false', Int.not_lt, Int.not_le, Nat.not_lt, Nat.not_le, Bool.true_eq, Bool.false_eq, reduceCtorEq] at c82
              refine gc_seq fun K21 hK21 => ?_
              refine gc_seq fun K22 hK22 => ?_
              refine gc_region ?_
              refine gl_op rfl rfl rfl (op_pure hT rfl) ?_
              refine gl_op rfl rfl rfl (op_rem hT rfl (by omega)) ?_
              refine gl_op rfl rfl rfl (op_pure hT rfl) ?_
              refine gl_nil ?_
              refine hK22 _ _ ?_
              clear hK22; try clear K22
              refine gc_cond rfl rfl (fun c86 => ?_) (fun c86 => ?_)
              · try simp only [decide_eq_true_eq, decide_eq_false_iff_not, Bool.not_eq_true', Bool.not_eq_false', Int.not_lt, Int.not_le, Nat.not_lt, Nat.not_le, Bool.true_eq, Bool.false_eq, reduceCtorEq] at c86
                refine gc_seq fun K23 hK23 => ?_
                refine gc_region ?_
                refine gl_op rfl rfl rfl (op_buildG rfl plan61 rfl rfl) ?_
                refine gl_storeM 2 hS el61 rfl rfl rfl rfl rfl rfl rfl rfl rfl fun wmodel_go_107 hS => ?_
                refine gl_op rfl rfl rfl (op_pure hT rfl) ?_
                refine gl_nil ?_
                refine hK23 _ _ ?_
                clear hK23; try clear K23
                refine gc_ret ?_
                try simp only [x_then_ret, x_block_ret]
                refine gk_res2 rfl (⟨_, rfl, run_loadVarB 2 Tryd.underlying61 rfl el61 hS rfl rfl rfl⟩) (rfl) ?_
                refine ⟨?_, hS.below⟩
                unfold outV
                rw [if_neg (by rw [c17]; simp), if_neg hsz.1, if_neg hnw, if_pos ⟨c82, by omega⟩]
                rfl
              · try simp only [decide_eq_true_eq, decide_eq_false_iff_not, Bool.not_eq_true', Bool.not_eq_false', Int.not_lt, Int.not_le, Nat.not_lt, Nat.not_le, Bool.true_eq, Bool.false_eq, reduceCtorEq] at c86
                refine gc_skip ?_
                refine hK21 _ _ ?_
                clear hK21; try clear K21
                refine gc_region ?_
                refine gl_op rfl rfl rfl (op_fieldB 1 rfl Tryd.underlying65 rfl el3 rfl rfl) ?_
                refine gl_op rfl rfl rfl (op_loadB 0 hT hS rfl rfl rfl rfl rfl rfl) ?_
                first | refine gl_fit hT rfl rfl rfl rfl (by omega) ?_ | refine gl_op rfl rfl rfl (op_pure hT rfl) ?_
                refine gl_op rfl rfl rfl (op_buildG rfl plan61 rfl rfl) ?_
                refine gl_storeM 3 hS el61 rfl rfl rfl rfl rfl rfl rfl rfl rfl fun wmodel_go_109 hS => ?_
                refine gl_nil ?_
                intro a' ha
                first
                  | (refine ⟨ha.sub ⟨rfl, rfl, trivial⟩, fun h => absurd h.1 (by omega), ?_⟩
                     rw [show outS L s = ⟨L.out, mid.h, mid.w⟩ by unfold outS; rw [if_neg (by omega), if_neg (by omega), if_pos (show winV L.k from .inl c72), if_pos c72]; rw [if_pos (show winV L.k from .inl c72)] at hmid; rw [← hmid]]
                     exact hS)
                  | (refine ⟨ha.sub ⟨rfl, rfl, trivial⟩, fun h => absurd h.1 (by omega), ?_⟩
                     rw [show outS L s = ⟨L.out, 1, 1⟩ by unfold outS; rw [if_pos c77]]
                     exact hS)
                  | (refine ⟨ha.sub ⟨rfl, rfl, trivial⟩, fun h => absurd h.2 (by omega), ?_⟩
                     rw [show outS L s = ⟨2 * L.out, 1, 1⟩ by unfold outS; rw [if_neg (by omega), if_pos c82]]
                     exact hS)
                  | (refine ⟨ha.sub ⟨rfl, rfl, trivial⟩, fun h => absurd h.1 c82, ?_⟩
                     rw [show outS L s = mid by
                       unfold outS
                       rw [if_neg c77, if_neg c82]
                       rw [← hmid]
                       by_cases hw : winV L.k
                       · rw [if_pos hw, if_pos hw, if_neg c72]
                       · rw [if_neg hw, if_neg hw]]
                     exact hS)
            · try simp only [decide_eq_true_eq, decide_eq_false_iff_not, Bool.not_eq_true', Bool.not_eq_false', Int.not_lt, Int.not_le, Nat.not_lt, Nat.not_le, Bool.true_eq, Bool.false_eq, reduceCtorEq] at c82
              refine gc_skip ?_
              intro a' ha
              first
                | (refine ⟨ha.sub ⟨rfl, rfl, trivial⟩, fun h => absurd h.1 (by omega), ?_⟩
                   rw [show outS L s = ⟨L.out, mid.h, mid.w⟩ by unfold outS; rw [if_neg (by omega), if_neg (by omega), if_pos (show winV L.k from .inl c72), if_pos c72]; rw [if_pos (show winV L.k from .inl c72)] at hmid; rw [← hmid]]
                   exact hS)
                | (refine ⟨ha.sub ⟨rfl, rfl, trivial⟩, fun h => absurd h.1 (by omega), ?_⟩
                   rw [show outS L s = ⟨L.out, 1, 1⟩ by unfold outS; rw [if_pos c77]]
                   exact hS)
                | (refine ⟨ha.sub ⟨rfl, rfl, trivial⟩, fun h => absurd h.2 (by omega), ?_⟩
                   rw [show outS L s = ⟨2 * L.out, 1, 1⟩ by unfold outS; rw [if_neg (by omega), if_pos c82]]
                   exact hS)
                | (refine ⟨ha.sub ⟨rfl, rfl, trivial⟩, fun h => absurd h.1 c82, ?_⟩
                   rw [show outS L s = mid by
                     unfold outS
                     rw [if_neg c77, if_neg c82]
                     rw [← hmid]
                     by_cases hw : winV L.k
                     · rw [if_pos hw, if_pos hw, if_neg c72]
                     · rw [if_neg hw, if_neg hw]]
                   exact hS)
      rintro a' w2 ⟨hF, hn6, hS⟩
      refine gc_of hF ?_
      clear hF
      have hso : (outS L s).ok := by
        have hdiv : ∀ x y : Int, winV L.k → 1 ≤ y → -1000 ≤ x → x ≤ 1000 → -1001 ≤ x / y ∧ x / y ≤ 1000 := fun x y _ h1 h2 h3 => by
          have e1 := Int.ediv_mul_le x (show y ≠ 0 by omega)
          have e2 := Int.lt_ediv_add_one_mul_self x (show (0 : Int) < y by omega)
          constructor
          · rcases Int.lt_or_le (x / y) (-1001) with h | h
            · exfalso
              have : (x / y + 1) * y ≤ (x / y + 1) * 1 := Int.mul_le_mul_of_nonpos_left (by omega) (by omega)
              omega
            · exact h
          · rcases Int.lt_or_le 1000 (x / y) with h | h
            · exfalso
              have : (x / y) * 1 ≤ (x / y) * y := Int.mul_le_mul_of_nonneg_left (by omega) (by omega)
              omega
            · exact h
        unfold outS
        split
        · exact ⟨by constructor <;> simp only <;> omega, by constructor <;> simp only <;> omega, by constructor <;> simp only <;> omega⟩
        split
        · exact ⟨by constructor <;> simp only <;> omega, by constructor <;> simp only <;> omega, by constructor <;> simp only <;> omega⟩
        split
        · rename_i hw
          have hwn := fld_win hfo hw
          have d1 := hdiv (s.h + 2 * L.ph - L.kh) L.sh hw (by omega) (by omega) (by omega)
          have d2 := hdiv (s.w + 2 * L.pw - L.kw) L.sw hw (by omega) (by omega) (by omega)
          refine ⟨?_, by constructor <;> simp only <;> omega, by constructor <;> simp only <;> omega⟩
          simp only
          split
          · constructor <;> omega
          · exact hhc
        · exact hs
      refine gc_seq fun K24 hK24 => ?_
      refine gc_seq fun K25 hK25 => ?_
      refine gc_region ?_
      refine gl_op rfl rfl rfl (op_loadG 3 Tryd.underlying61 rfl el61 hS rfl rfl rfl rfl rfl) ?_
      refine gl_callf rfl rfl rfl rfl Tryd.func52 rfl rfl rfl (mSize_calls (outS L s) _ hso) ?_
      rintro _ w94 ⟨rfl, hb94⟩
      refine ⟨_, rfl, ?_⟩
      have hS := hS.grown hb94
      refine gl_op rfl rfl rfl (op_pure hT rfl) ?_
      refine gl_op rfl rfl rfl (op_pure hT rfl) ?_
      refine gl_op rfl rfl rfl (op_pure hT rfl) ?_
      refine gl_op rfl rfl rfl (op_pure hT rfl) ?_
      refine gl_op rfl rfl rfl (op_pure hT rfl) ?_
      refine gl_nil ?_
      refine hK25 _ _ ?_
      clear hK25; try clear K25
      refine gc_seq fun K26 hK26 => ?_
      refine gc_region ?_
      refine gl_op rfl rfl rfl (op_pure hT rfl) ?_
      refine gl_op rfl rfl rfl (op_pure hT rfl) ?_
      refine gl_nil ?_
      refine hK26 _ _ ?_
      clear hK26; try clear K26
      refine gc_cond rfl rfl (fun c98 => ?_) (fun c98 => ?_)
      · try simp only [decide_eq_true_eq, decide_eq_false_iff_not, Bool.not_eq_true', Bool.not_eq_false', Int.not_lt, Int.not_le, Nat.not_lt, Nat.not_le, Bool.true_eq, Bool.false_eq, reduceCtorEq] at c98
        refine gc_seq fun K27 hK27 => ?_
        refine gc_region ?_
        refine gl_op rfl rfl rfl (op_buildG rfl plan61 rfl rfl) ?_
        refine gl_op rfl rfl rfl (op_pure hT rfl) ?_
        refine gl_storeM 2 hS el61 rfl rfl rfl rfl rfl rfl rfl rfl rfl fun wmodel_go_112 hS => ?_
        refine gl_op rfl rfl rfl (op_pure hT rfl) ?_
        refine gl_nil ?_
        refine hK27 _ _ ?_
        clear hK27; try clear K27
        refine gc_ret ?_
        try simp only [x_then_ret, x_block_ret]
        refine gk_res2 rfl (⟨_, rfl, run_loadVarB 2 Tryd.underlying61 rfl el61 hS rfl rfl rfl⟩) (rfl) ?_
        refine ⟨?_, hS.below⟩
        have hb := sizeV_bad c98
        unfold outV
        rw [if_neg (by rw [c17]; simp), if_neg hsz.1, if_neg hnw, if_neg hn6, if_pos hb.1, hb.2]
        rfl
      · try simp only [decide_eq_true_eq, decide_eq_false_iff_not, Bool.not_eq_true', Bool.not_eq_false', Int.not_lt, Int.not_le, Nat.not_lt, Nat.not_le, Bool.true_eq, Bool.false_eq, reduceCtorEq] at c98
        refine gc_skip ?_
        refine hK24 _ _ ?_
        clear hK24; try clear K24
        refine gc_seq fun K28 hK28 => ?_
        refine gc_region ?_
        refine gl_op rfl rfl rfl (op_loadG 3 Tryd.underlying61 rfl el61 hS rfl rfl rfl rfl rfl) ?_
        refine gl_storeM 2 hS el61 rfl rfl rfl rfl rfl rfl rfl rfl rfl fun wmodel_go_114 hS => ?_
        refine gl_op rfl rfl rfl (op_pure hT rfl) ?_
        refine gl_nil ?_
        refine hK28 _ _ ?_
        clear hK28; try clear K28
        refine gc_ret ?_
        try simp only [x_then_ret, x_block_ret]
        refine gk_res2 rfl (⟨_, rfl, run_loadVarB 2 Tryd.underlying61 rfl el61 hS rfl rfl rfl⟩) (rfl) ?_
        refine ⟨?_, hS.below⟩
        have hb := sizeV_ok c98
        unfold outV
        rw [if_neg (by rw [c17]; simp), if_neg hsz.1, if_neg hnw, if_neg hn6, if_neg hb.1]
        rfl
theorem outV_ok {L : Ly} {s : Sh} (h : (outV L s).2 = 0) : fieldsV L = 0 ∧ ¬ szBad s ∧ ¬ (winV L.k ∧ (s.h + 2 * L.ph - L.kh < 0 ∨ s.w + 2 * L.pw - L.kw < 0)) ∧ ¬ (L.k = 6 ∧ (s.c * s.h * s.w) % 2 = 1) ∧ ¬ szBad (outS L s) ∧ (outV L s).1 = outS L s := by
  unfold outV at h ⊢
  by_cases h1 : fieldsV L ≠ 0
  · rw [if_pos h1] at h; exact absurd h h1
  rw [if_neg h1] at h ⊢
  by_cases h2 : szBad s
  · rw [if_pos h2] at h; exact absurd h (by decide)
  rw [if_neg h2] at h ⊢
  by_cases h3 : winV L.k ∧ (s.h + 2 * L.ph - L.kh < 0 ∨ s.w + 2 * L.pw - L.kw < 0)
  · rw [if_pos h3] at h; exact absurd h (by decide)
  rw [if_neg h3] at h ⊢
  by_cases h4 : L.k = 6 ∧ (s.c * s.h * s.w) % 2 = 1
  · rw [if_pos h4] at h; exact absurd h (by decide)
  rw [if_neg h4] at h ⊢
  by_cases h5 : szBad (outS L s)
  · rw [if_pos h5] at h; exact absurd h (by decide)
  rw [if_neg h5] at h ⊢
  exact ⟨by simpa using h1, h2, h3, h4, h5, rfl⟩
set_option maxHeartbeats 2000000 in
set_option maxRecDepth 100000 in
theorem mLists_calls (L : Ly) (s : Sh) (w : World) (hL : L.ok) (hs : s.ok) : Calls Tryd.prog 78 ⟨[.agg ⟨lyC L⟩, .agg ⟨shC s⟩]⟩ w fun e w' => e = .returned (.tuple #[.int .i64 (listsV L s).1.1, .int .i64 (listsV L s).1.2.1, .int .i64 (listsV L s).1.2.2.1, .int .i64 (listsV L s).1.2.2.2, .int .i64 (listsV L s).2]) ∧ Below w.heap.size w w' := by
  refine gc_enter (N := 69) Tryd.func78 rfl rfl rfl [(0, _), (1, _)] rfl ?_
  have hS := St.start w
  refine gc_seq fun K1 hK1 => ?_
  refine gc_region ?_
  refine gl_box hS rfl rfl rfl rfl rfl fun g2 w2 hS => ?_
  refine gl_box hS rfl rfl rfl rfl rfl fun g3 w3 hS => ?_
  refine gl_op rfl rfl rfl (op_pure hT rfl) ?_
  refine gl_op rfl rfl rfl (op_pure hT rfl) ?_
  refine gl_op rfl rfl rfl (op_pure hT rfl) ?_
  refine gl_op rfl rfl rfl (op_pure hT rfl) ?_
  refine gl_op rfl rfl rfl (op_pure hT rfl) ?_
  refine gl_nil ?_
  refine hK1 _ _ ?_
  clear hK1; try clear K1
  refine gc_seq fun K2 hK2 => ?_
  refine gc_seq fun K3 hK3 => ?_
  refine gc_region ?_
  refine gl_op rfl rfl rfl (op_loadG 0 Tryd.underlying65 rfl el65 hS rfl rfl rfl rfl rfl) ?_
  refine gl_op rfl rfl rfl (op_loadG 1 Tryd.underlying61 rfl el61 hS rfl rfl rfl rfl rfl) ?_
  refine gl_callf rfl rfl rfl rfl Tryd.func77 rfl rfl rfl (mOut_calls L s _ hL hs) ?_
  rintro _ w14 ⟨rfl, hb14⟩
  refine ⟨_, rfl, ?_⟩
  have hS := hS.grown hb14
  refine gl_op rfl rfl rfl (op_pure hT rfl) ?_
  refine gl_op rfl rfl rfl (op_pure hT rfl) ?_
  refine gl_op rfl rfl rfl (op_pure hT rfl) ?_
  refine gl_op rfl rfl rfl (op_pure hT rfl) ?_
  refine gl_nil ?_
  refine hK3 _ _ ?_
  clear hK3; try clear K3
  refine gc_seq fun K4 hK4 => ?_
  refine gc_region ?_
  refine gl_op rfl rfl rfl (op_pure hT rfl) ?_
  refine gl_op rfl rfl rfl (op_pure hT rfl) ?_
  refine gl_nil ?_
  refine hK4 _ _ ?_
  clear hK4; try clear K4
  refine gc_cond rfl rfl (fun c18 => ?_) (fun c18 => ?_)
  · try simp only [decide_eq_true_eq, decide_eq_false_iff_not, Bool.not_eq_true', Bool.not_eq_false', Int.not_lt, Int.not_le, Nat.not_lt, Nat.not_le, Bool.true_eq, Bool.false_eq, reduceCtorEq] at c18
    refine gc_seq fun K5 hK5 => ?_
    refine gc_region ?_
    refine gl_op rfl rfl rfl (op_pure hT rfl) ?_
    refine gl_op rfl rfl rfl (op_pure hT rfl) ?_
    refine gl_op rfl rfl rfl (op_pure hT rfl) ?_
    refine gl_op rfl rfl rfl (op_pure hT rfl) ?_
    refine gl_op rfl rfl rfl (op_pure hT rfl) ?_
    refine gl_op rfl rfl rfl (op_pure hT rfl) ?_
    refine gl_nil ?_
    refine hK5 _ _ ?_
    clear hK5; try clear K5
    refine gc_ret ?_
    try simp only [x_then_ret, x_block_ret]
    refine gk_ret5 rfl rfl rfl rfl rfl rfl ?_
    refine ⟨?_, hS.below⟩
    unfold listsV
    rw [if_pos c18]
    rfl
  · try simp only [decide_eq_true_eq, decide_eq_false_iff_not, Bool.not_eq_true', Bool.not_eq_false', Int.not_lt, Int.not_le, Nat.not_lt, Nat.not_le, Bool.true_eq, Bool.false_eq, reduceCtorEq] at c18
    obtain ⟨hf, hsz, _⟩ := outV_ok c18
    obtain ⟨_, _, hfo⟩ := fv_zero hf
    have hgs := sz_good hsz
    have hout := fld_out hfo
    have hl0 : listsV L s = (lensV L s, 0) := by unfold listsV; rw [if_neg (by simpa using c18)]
    refine gc_skip ?_
    refine hK2 _ _ ?_
    clear hK2; try clear K2
    refine gc_seq fun K6 hK6 => ?_
    refine gc_region ?_
    refine gl_op rfl rfl rfl (op_loadG 1 Tryd.underlying61 rfl el61 hS rfl rfl rfl rfl rfl) ?_
    refine gl_callf rfl rfl rfl rfl Tryd.func52 rfl rfl rfl (mSize_calls s _ hs) ?_
    rintro _ w22 ⟨rfl, hb22⟩
    refine ⟨_, rfl, ?_⟩
    have hS := hS.grown hb22
    refine gl_op rfl rfl rfl (op_pure hT rfl) ?_
    refine gl_op rfl rfl rfl (op_pure hT rfl) ?_
    refine gl_spell 23 (v := .int .i64 (s.c * s.h * s.w)) rfl (by show Value.int .i64 (sizeV s).1 = _; unfold sizeV; rw [if_neg hsz]) ?_
    refine gl_op rfl rfl rfl (op_pure hT rfl) ?_
    refine gl_op rfl rfl rfl (op_pure hT rfl) ?_
    refine gl_op rfl rfl rfl (op_pure hT rfl) ?_
    refine gl_nil ?_
    refine hK6 _ _ ?_
    clear hK6; try clear K6
    refine gc_cut (fun a' w' => Fr 69 a' [(4, .int .i64 (lensV L s).1), (5, .int .i64 (lensV L s).2.1), (6, .int .i64 (lensV L s).2.2.1), (7, .int .i64 (lensV L s).2.2.2)] ∧ St w.heap.size w w' [.blk g2 65 (lyC L), .blk g3 61 (shC s)]) ?_ ?_
    · skip
      refine gc_seq fun K7 hK7 => ?_
      refine gc_region ?_
      refine gl_op rfl rfl rfl (op_fieldB 0 rfl Tryd.underlying65 rfl el3 rfl rfl) ?_
      refine gl_op rfl rfl rfl (op_loadB 0 hT hS rfl rfl rfl rfl rfl rfl) ?_
      refine gl_nil ?_
      refine hK7 _ _ ?_
      clear hK7; try clear K7
      refine gc_block ?_
      refine gc_seq fun K8 hK8 => ?_
      refine gc_region ?_
      refine gl_op rfl rfl rfl (op_pure hT rfl) ?_
      refine gl_op rfl rfl rfl (op_pure hT rfl) ?_
      refine gl_nil ?_
      refine hK8 _ _ ?_
      clear hK8; try clear K8
      refine gc_cond rfl rfl (fun c27 => ?_) (fun c27 => ?_)
      · try simp only [decide_eq_true_eq, decide_eq_false_iff_not, Bool.not_eq_true', Bool.not_eq_false', Int.not_lt, Int.not_le, Nat.not_lt, Nat.not_le, Bool.true_eq, Bool.false_eq, reduceCtorEq] at c27
        have hm1 := mul_bd0 (a := L.out) (b := s.c * s.h * s.w) (A := 256) (B := 256) (by omega) (by omega) (by omega) (by omega)
        refine gc_anyS hS (by kernel_rfl) rfl fun nq7 hK => ?_
        have hS := hS.dr nq7
        refine ga_take 0 rfl rfl rfl rfl (by kernel_rfl) (fun _ _ _ _ h => h) hK (fun w1 hS => op_fieldB 1 rfl Tryd.underlying65 rfl el3 rfl rfl) ?_
        refine ga_take 1 rfl rfl rfl rfl (by kernel_rfl) (fun _ _ _ _ h => h) hK (fun w1 hS => op_loadB 0 hT hS rfl rfl rfl rfl rfl rfl) ?_
        refine ga_take 2 rfl rfl rfl rfl (by kernel_rfl) (fun _ _ _ _ h => h) hK (fun w1 hS => op_pure hT rfl) ?_
        refine ga_take 3 rfl rfl rfl rfl (by kernel_rfl) (fun _ _ _ _ h => h) hK (fun w1 hS => (by first | exact op_fit hT rfl (by omega) | exact op_pure hT rfl)) ?_
        refine ga_take 4 rfl rfl rfl rfl (by kernel_rfl) (fun _ _ _ _ h => h) hK (fun w1 hS => op_fieldB 1 rfl Tryd.underlying65 rfl el3 rfl rfl) ?_
        refine ga_take 5 rfl rfl rfl rfl (by kernel_rfl) (fun _ _ _ _ h => h) hK (fun w1 hS => op_loadB 0 hT hS rfl rfl rfl rfl rfl rfl) ?_
        refine ga_take 6 rfl rfl rfl rfl (by kernel_rfl) (fun _ _ _ _ h => h) hK (fun w1 hS => op_pure hT rfl) ?_
        refine ga_take 7 rfl rfl rfl rfl (by kernel_rfl) (fun _ _ _ _ h => h) hK (fun w1 hS => op_pure hT rfl) ?_
        refine ga_done (by kernel_rfl) ?_
        intro a' ha
        refine ⟨?_, hS⟩
        first
          | (rw [show lensV L s = (L.out * (s.c * s.h * s.w), L.out, 0, 0) by unfold lensV; rw [if_pos (by omega)]]; exact ha.sub ⟨rfl, rfl, rfl, rfl, trivial⟩)
          | (rw [show lensV L s = (L.out * s.c * L.kh * L.kw, L.out, 0, 0) by unfold lensV; rw [if_neg (by omega), if_pos (by omega)]]; exact ha.sub ⟨rfl, rfl, rfl, rfl, trivial⟩)
          | (rw [show lensV L s = (s.c, s.c, 0, 0) by unfold lensV; rw [if_neg (by omega), if_neg (by omega), if_pos (by omega)]]; exact ha.sub ⟨rfl, rfl, rfl, rfl, trivial⟩)
          | (rw [show lensV L s = (0, 0, L.out * (s.c * s.h * s.w) / 2, L.out) by unfold lensV; rw [if_neg (by omega), if_neg (by omega), if_neg (by omega), if_pos (by omega)]]; exact ha.sub ⟨rfl, rfl, rfl, rfl, trivial⟩)
          | (rw [show lensV L s = (0, 0, 0, 0) by unfold lensV; rw [if_neg (by omega), if_neg (by omega), if_neg (by omega), if_neg (by omega)]]; exact ha.sub ⟨rfl, rfl, rfl, rfl, trivial⟩)
      · try simp only [decide_eq_true_eq, decide_eq_false_iff_not, Bool.not_eq_true', Bool.not_eq_false', Int.not_lt, Int.not_le, Nat.not_lt, Nat.not_le, Bool.true_eq, Bool.false_eq, reduceCtorEq] at c27
        refine gc_seq fun K9 hK9 => ?_
        refine gc_region ?_
        refine gl_op rfl rfl rfl (op_pure hT rfl) ?_
        refine gl_op rfl rfl rfl (op_pure hT rfl) ?_
        refine gl_nil ?_
        refine hK9 _ _ ?_
        clear hK9; try clear K9
        refine gc_cond rfl rfl (fun c35 => ?_) (fun c35 => ?_)
        · try simp only [decide_eq_true_eq, decide_eq_false_iff_not, Bool.not_eq_true', Bool.not_eq_false', Int.not_lt, Int.not_le, Nat.not_lt, Nat.not_le, Bool.true_eq, Bool.false_eq, reduceCtorEq] at c35
          have hwn := fld_win hfo (.inl c35)
          have hm1 := mul_bd0 (a := L.out) (b := s.c) (A := 256) (B := 256) (by omega) (by omega) (by omega) (by omega)
          have hm2 := mul_bd0 (a := L.out * s.c) (b := L.kh) (A := 65536) (B := 16) (by omega) (by omega) (by omega) (by omega)
          have hm3 := mul_bd0 (a := L.out * s.c * L.kh) (b := L.kw) (A := 1048576) (B := 16) (by omega) (by omega) (by omega) (by omega)
          refine gc_anyS hS (by kernel_rfl) rfl fun nq9 hK => ?_
          have hS := hS.dr nq9
          refine ga_take 0 rfl rfl rfl rfl (by kernel_rfl) (fun _ _ _ _ h => h) hK (fun w1 hS => op_fieldB 1 rfl Tryd.underlying65 rfl el3 rfl rfl) ?_
          refine ga_take 1 rfl rfl rfl rfl (by kernel_rfl) (fun _ _ _ _ h => h) hK (fun w1 hS => op_loadB 0 hT hS rfl rfl rfl rfl rfl rfl) ?_
          refine ga_take 2 rfl rfl rfl rfl (by kernel_rfl) (fun _ _ _ _ h => h) hK (fun w1 hS => op_fieldB 0 rfl Tryd.underlying61 rfl el3 rfl rfl) ?_
          refine ga_take 3 rfl rfl rfl rfl (by kernel_rfl) (fun _ _ _ _ h => h) hK (fun w1 hS => op_loadB 1 hT hS rfl rfl rfl rfl rfl rfl) ?_
          refine ga_take 4 rfl rfl rfl rfl (by kernel_rfl) (fun _ _ _ _ h => h) hK (fun w1 hS => (by first | exact op_fit hT rfl (by omega) | exact op_pure hT rfl)) ?_
          refine ga_take 5 rfl rfl rfl rfl (by kernel_rfl) (fun _ _ _ _ h => h) hK (fun w1 hS => op_fieldB 2 rfl Tryd.underlying65 rfl el3 rfl rfl) ?_
          refine ga_take 6 rfl rfl rfl rfl (by kernel_rfl) (fun _ _ _ _ h => h) hK (fun w1 hS => op_loadB 0 hT hS rfl rfl rfl rfl rfl rfl) ?_
          refine ga_take 7 rfl rfl rfl rfl (by kernel_rfl) (fun _ _ _ _ h => h) hK (fun w1 hS => (by first | exact op_fit hT rfl (by omega) | exact op_pure hT rfl)) ?_
          refine ga_take 8 rfl rfl rfl rfl (by kernel_rfl) (fun _ _ _ _ h => h) hK (fun w1 hS => op_fieldB 3 rfl Tryd.underlying65 rfl el3 rfl rfl) ?_
          refine ga_take 9 rfl rfl rfl rfl (by kernel_rfl) (fun _ _ _ _ h => h) hK (fun w1 hS => op_loadB 0 hT hS rfl rfl rfl rfl rfl rfl) ?_
          refine ga_take 10 rfl rfl rfl rfl (by kernel_rfl) (fun _ _ _ _ h => h) hK (fun w1 hS => (by first | exact op_fit hT rfl (by omega) | exact op_pure hT rfl)) ?_
          refine ga_take 11 rfl rfl rfl rfl (by kernel_rfl) (fun _ _ _ _ h => h) hK (fun w1 hS => op_fieldB 1 rfl Tryd.underlying65 rfl el3 rfl rfl) ?_
          refine ga_take 12 rfl rfl rfl rfl (by kernel_rfl) (fun _ _ _ _ h => h) hK (fun w1 hS => op_loadB 0 hT hS rfl rfl rfl rfl rfl rfl) ?_
          refine ga_take 13 rfl rfl rfl rfl (by kernel_rfl) (fun _ _ _ _ h => h) hK (fun w1 hS => op_pure hT rfl) ?_
          refine ga_take 14 rfl rfl rfl rfl (by kernel_rfl) (fun _ _ _ _ h => h) hK (fun w1 hS => op_pure hT rfl) ?_
          refine ga_done (by kernel_rfl) ?_
          intro a' ha
          refine ⟨?_, hS⟩
          first
            | (rw [show lensV L s = (L.out * (s.c * s.h * s.w), L.out, 0, 0) by unfold lensV; rw [if_pos (by omega)]]; exact ha.sub ⟨rfl, rfl, rfl, rfl, trivial⟩)
            | (rw [show lensV L s = (L.out * s.c * L.kh * L.kw, L.out, 0, 0) by unfold lensV; rw [if_neg (by omega), if_pos (by omega)]]; exact ha.sub ⟨rfl, rfl, rfl, rfl, trivial⟩)
            | (rw [show lensV L s = (s.c, s.c, 0, 0) by unfold lensV; rw [if_neg (by omega), if_neg (by omega), if_pos (by omega)]]; exact ha.sub ⟨rfl, rfl, rfl, rfl, trivial⟩)
            | (rw [show lensV L s = (0, 0, L.out * (s.c * s.h * s.w) / 2, L.out) by unfold lensV; rw [if_neg (by omega), if_neg (by omega), if_neg (by omega), if_pos (by omega)]]; exact ha.sub ⟨rfl, rfl, rfl, rfl, trivial⟩)
            | (rw [show lensV L s = (0, 0, 0, 0) by unfold lensV; rw [if_neg (by omega), if_neg (by omega), if_neg (by omega), if_neg (by omega)]]; exact ha.sub ⟨rfl, rfl, rfl, rfl, trivial⟩)
        · try simp only [decide_eq_true_eq, decide_eq_false_iff_not, Bool.not_eq_true', Bool.not_eq_false', Int.not_lt, Int.not_le, Nat.not_lt, Nat.not_le, Bool.true_eq, Bool.false_eq, reduceCtorEq] at c35
          refine gc_seq fun K10 hK10 => ?_
          refine gc_region ?_
          refine gl_op rfl rfl rfl (op_pure hT rfl) ?_
          refine gl_op rfl rfl rfl (op_pure hT rfl) ?_
          refine gl_nil ?_
          refine hK10 _ _ ?_
          clear hK10; try clear K10
          refine gc_cond rfl rfl (fun c50 => ?_) (fun c50 => ?_)
          · try simp only [decide_eq_true_eq, decide_eq_false_iff_not, Bool.not_eq_true', Bool.not_eq_false', Int.not_lt, Int.not_le, Nat.not_lt, Nat.not_le, Bool.true_eq, Bool.false_eq, reduceCtorEq] at c50
            refine gc_anyS hS (by kernel_rfl) rfl fun nq11 hK => ?_
            have hS := hS.dr nq11
            refine ga_take 0 rfl rfl rfl rfl (by kernel_rfl) (fun _ _ _ _ h => h) hK (fun w1 hS => op_fieldB 0 rfl Tryd.underlying61 rfl el3 rfl rfl) ?_
            refine ga_take 1 rfl rfl rfl rfl (by kernel_rfl) (fun _ _ _ _ h => h) hK (fun w1 hS => op_loadB 1 hT hS rfl rfl rfl rfl rfl rfl) ?_
            refine ga_take 2 rfl rfl rfl rfl (by kernel_rfl) (fun _ _ _ _ h => h) hK (fun w1 hS => op_fieldB 0 rfl Tryd.underlying61 rfl el3 rfl rfl) ?_
            refine ga_take 3 rfl rfl rfl rfl (by kernel_rfl) (fun _ _ _ _ h => h) hK (fun w1 hS => op_loadB 1 hT hS rfl rfl rfl rfl rfl rfl) ?_
            refine ga_take 4 rfl rfl rfl rfl (by kernel_rfl) (fun _ _ _ _ h => h) hK (fun w1 hS => op_pure hT rfl) ?_
            refine ga_take 5 rfl rfl rfl rfl (by kernel_rfl) (fun _ _ _ _ h => h) hK (fun w1 hS => op_pure hT rfl) ?_
            refine ga_done (by kernel_rfl) ?_
            intro a' ha
            refine ⟨?_, hS⟩
            first
              | (rw [show lensV L s = (L.out * (s.c * s.h * s.w), L.out, 0, 0) by unfold lensV; rw [if_pos (by omega)]]; exact ha.sub ⟨rfl, rfl, rfl, rfl, trivial⟩)
              | (rw [show lensV L s = (L.out * s.c * L.kh * L.kw, L.out, 0, 0) by unfold lensV; rw [if_neg (by omega), if_pos (by omega)]]; exact ha.sub ⟨rfl, rfl, rfl, rfl, trivial⟩)
              | (rw [show lensV L s = (s.c, s.c, 0, 0) by unfold lensV; rw [if_neg (by omega), if_neg (by omega), if_pos (by omega)]]; exact ha.sub ⟨rfl, rfl, rfl, rfl, trivial⟩)
              | (rw [show lensV L s = (0, 0, L.out * (s.c * s.h * s.w) / 2, L.out) by unfold lensV; rw [if_neg (by omega), if_neg (by omega), if_neg (by omega), if_pos (by omega)]]; exact ha.sub ⟨rfl, rfl, rfl, rfl, trivial⟩)
              | (rw [show lensV L s = (0, 0, 0, 0) by unfold lensV; rw [if_neg (by omega), if_neg (by omega), if_neg (by omega), if_neg (by omega)]]; exact ha.sub ⟨rfl, rfl, rfl, rfl, trivial⟩)
          · try simp only [decide_eq_true_eq, decide_eq_false_iff_not, Bool.not_eq_true', Bool.not_eq_false', Int.not_lt, Int.not_le, Nat.not_lt, Nat.not_le, Bool.true_eq, Bool.false_eq, reduceCtorEq] at c50
            refine gc_seq fun K11 hK11 => ?_
            refine gc_region ?_
            refine gl_op rfl rfl rfl (op_pure hT rfl) ?_
            refine gl_op rfl rfl rfl (op_pure hT rfl) ?_
            refine gl_nil ?_
            refine hK11 _ _ ?_
            clear hK11; try clear K11
            refine gc_cond rfl rfl (fun c56 => ?_) (fun c56 => ?_)
            · try simp only [decide_eq_true_eq, decide_eq_false_iff_not, Bool.not_eq_true', Bool.not_eq_false', Int.not_lt, Int.not_le, Nat.not_lt, Nat.not_le, Bool.true_eq, Bool.false_eq, reduceCtorEq] at c56
              have hm1 := mul_bd0 (a := L.out) (b := s.c * s.h * s.w) (A := 256) (B := 256) (by omega) (by omega) (by omega) (by omega)
              refine gc_anyS hS (by kernel_rfl) rfl fun nq13 hK => ?_
              have hS := hS.dr nq13
              refine ga_take 0 rfl rfl rfl rfl (by kernel_rfl) (fun _ _ _ _ h => h) hK (fun w1 hS => op_fieldB 1 rfl Tryd.underlying65 rfl el3 rfl rfl) ?_
              refine ga_take 1 rfl rfl rfl rfl (by kernel_rfl) (fun _ _ _ _ h => h) hK (fun w1 hS => op_loadB 0 hT hS rfl rfl rfl rfl rfl rfl) ?_
              refine ga_take 2 rfl rfl rfl rfl (by kernel_rfl) (fun _ _ _ _ h => h) hK (fun w1 hS => op_pure hT rfl) ?_
              refine ga_take 3 rfl rfl rfl rfl (by kernel_rfl) (fun _ _ _ _ h => h) hK (fun w1 hS => (by first | exact op_fit hT rfl (by omega) | exact op_pure hT rfl)) ?_
              refine ga_take 4 rfl rfl rfl rfl (by kernel_rfl) (fun _ _ _ _ h => h) hK (fun w1 hS => (by first | exact op_quo hT rfl (by omega) (by omega) | exact op_pure hT rfl | exact op_quoS rfl rfl rfl (by omega) (by omega))) ?_
              refine ga_take 5 rfl rfl rfl rfl (by kernel_rfl) (fun _ _ _ _ h => h) hK (fun w1 hS => op_fieldB 1 rfl Tryd.underlying65 rfl el3 rfl rfl) ?_
              refine ga_take 6 rfl rfl rfl rfl (by kernel_rfl) (fun _ _ _ _ h => h) hK (fun w1 hS => op_loadB 0 hT hS rfl rfl rfl rfl rfl rfl) ?_
              refine ga_take 7 rfl rfl rfl rfl (by kernel_rfl) (fun _ _ _ _ h => h) hK (fun w1 hS => op_pure hT rfl) ?_
              refine ga_take 8 rfl rfl rfl rfl (by kernel_rfl) (fun _ _ _ _ h => h) hK (fun w1 hS => op_pure hT rfl) ?_
              refine ga_done (by kernel_rfl) ?_
              intro a' ha
              refine ⟨?_, hS⟩
              first
                | (rw [show lensV L s = (L.out * (s.c * s.h * s.w), L.out, 0, 0) by unfold lensV; rw [if_pos (by omega)]]; exact ha.sub ⟨rfl, rfl, rfl, rfl, trivial⟩)
                | (rw [show lensV L s = (L.out * s.c * L.kh * L.kw, L.out, 0, 0) by unfold lensV; rw [if_neg (by omega), if_pos (by omega)]]; exact ha.sub ⟨rfl, rfl, rfl, rfl, trivial⟩)
                | (rw [show lensV L s = (s.c, s.c, 0, 0) by unfold lensV; rw [if_neg (by omega), if_neg (by omega), if_pos (by omega)]]; exact ha.sub ⟨rfl, rfl, rfl, rfl, trivial⟩)
                | (rw [show lensV L s = (0, 0, L.out * (s.c * s.h * s.w) / 2, L.out) by unfold lensV; rw [if_neg (by omega), if_neg (by omega), if_neg (by omega), if_pos (by omega)]]; exact ha.sub ⟨rfl, rfl, rfl, rfl, trivial⟩)
                | (rw [show lensV L s = (0, 0, 0, 0) by unfold lensV; rw [if_neg (by omega), if_neg (by omega), if_neg (by omega), if_neg (by omega)]]; exact ha.sub ⟨rfl, rfl, rfl, rfl, trivial⟩)
            · try simp only [decide_eq_true_eq, decide_eq_false_iff_not, Bool.not_eq_true', Bool.not_eq_false', Int.not_lt, Int.not_le, Nat.not_lt, Nat.not_le, Bool.true_eq, Bool.false_eq, reduceCtorEq] at c56
              refine gc_skip ?_
              intro a' ha
              refine ⟨?_, hS⟩
              first
                | (rw [show lensV L s = (L.out * (s.c * s.h * s.w), L.out, 0, 0) by unfold lensV; rw [if_pos (by omega)]]; exact ha.sub ⟨rfl, rfl, rfl, rfl, trivial⟩)
                | (rw [show lensV L s = (L.out * s.c * L.kh * L.kw, L.out, 0, 0) by unfold lensV; rw [if_neg (by omega), if_pos (by omega)]]; exact ha.sub ⟨rfl, rfl, rfl, rfl, trivial⟩)
                | (rw [show lensV L s = (s.c, s.c, 0, 0) by unfold lensV; rw [if_neg (by omega), if_neg (by omega), if_pos (by omega)]]; exact ha.sub ⟨rfl, rfl, rfl, rfl, trivial⟩)
                | (rw [show lensV L s = (0, 0, L.out * (s.c * s.h * s.w) / 2, L.out) by unfold lensV; rw [if_neg (by omega), if_neg (by omega), if_neg (by omega), if_pos (by omega)]]; exact ha.sub ⟨rfl, rfl, rfl, rfl, trivial⟩)
                | (rw [show lensV L s = (0, 0, 0, 0) by unfold lensV; rw [if_neg (by omega), if_neg (by omega), if_neg (by omega), if_neg (by omega)]]; exact ha.sub ⟨rfl, rfl, rfl, rfl, trivial⟩)
    rintro a' w1 ⟨hF, hS⟩
    refine gc_of hF ?_
    clear hF
    refine gc_seq fun K12 hK12 => ?_
    refine gc_region ?_
    refine gl_op rfl rfl rfl (op_pure hT rfl) ?_
    refine gl_op rfl rfl rfl (op_pure hT rfl) ?_
    refine gl_op rfl rfl rfl (op_pure hT rfl) ?_
    refine gl_op rfl rfl rfl (op_pure hT rfl) ?_
    refine gl_op rfl rfl rfl (op_pure hT rfl) ?_
    refine gl_op rfl rfl rfl (op_pure hT rfl) ?_
    refine gl_op rfl rfl rfl (op_pure hT rfl) ?_
    refine gl_op rfl rfl rfl (op_pure hT rfl) ?_
    refine gl_op rfl rfl rfl (op_pure hT rfl) ?_
    refine gl_nil ?_
    refine hK12 _ _ ?_
    clear hK12; try clear K12
    refine gc_ret ?_
    try simp only [x_then_ret, x_block_ret]
    refine gk_ret5 rfl rfl rfl rfl rfl rfl ?_
    exact ⟨by rw [hl0], hS.below⟩
end Go.Proofs.YtnomlloaahoceaaDoor

