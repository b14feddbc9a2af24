/- CodeProps returns true for every argument, as its given row and its card say. No condition beyond the given row's. -/
import Derived.Test.YtnomlloaahoceaaDoorZ34
import Derived.Test.YtnomlloaahoceaaDoorZ37
import Derived.Test.YtnomlloaahoceaaDoorZ38
/- A question among a row's arguments, opened; the row of CodeProps and its card. No condition beyond the given row's. -/
namespace Go.Proofs.YtnomlloaahoceaaDoor
open Go.ChangeShapes Go.WideShapes Go.ChangeAt Go.RowKit
open Go.ChangeMaps (open_string shut_string)
set_option linter.unusedVariables false
section
variable {H : Type} {enc : TypeId × Value → H} {W : World}
theorem f64_of_trod {P : Program} {t : TypeId} {n : Nat} {u : Value} {d : DataW H} {p : List MemPlace} (he : P.underlying t = some (.float .f64)) (h : DataW.trod enc P W 0 (fun _ => true) true n t [u] = some (d, p)) : ∃ b : Nat, u = fV b ∧ b < 18446744073709551616 := by
  cases n with
  | zero => simp [DataW.trod] at h
  | succ n =>
    unfold DataW.trod at h
    rw [he] at h
    split at h <;> first | (simp_all; done) | skip
    rename_i k k' b h1 h2
    injection h1 with h1
    injection h1 with h1
    subst h1
    simp only [List.cons.injEq, and_true] at h2
    subst h2
    split at h
    · rename_i hc
      obtain ⟨rfl, hw⟩ := hc
      exact ⟨b, rfl, by simpa [Lit.wf] using hw⟩
    · cases h
/-- A slice of numbers. -/
theorem open_f64t {P : Program} {t e : TypeId} {fuel : Nat} {cs : List Value} {d : DataW H} {p : List MemPlace} (ht : P.underlying t = some (.slice e)) (he : P.underlying e = some (.float .f64)) (hc : P.cellsOf e = 1) (hb : P.bytesOf e = 8) (h : DataW.trod enc P W 0 (fun _ => true) true fuel t cs = some (d, p)) (hwt : ∀ n ∈ d.weights P t, n ≤ reachBytes) :
    ∃ (A : Option Addr) (c : Nat) (l : List Nat), cs = [.slice A l.length c] ∧ RdE W All fV A l ∧ l.length ≤ c ∧ l.length ≤ 17592186044416 ∧ ∀ u ∈ l, u < 18446744073709551616 := by
  obtain ⟨A, len, cap, us, es, rfl, hul, hel, hr, hl, hm, hd, hi⟩ := open_elems ht hc h
  obtain ⟨l, hll, hlp⟩ := list_choose (0 : Nat) len (Pr := fun i b => us[i]? = some (fV b) ∧ b < 18446744073709551616) fun i hi2 => by
    obtain ⟨u, di, n, pi, hu, _, htr⟩ := hi i hi2
    obtain ⟨b, rfl, hb⟩ := f64_of_trod he htr
    exact ⟨b, hu, hb⟩
  have hus : us = l.map fV := by
    apply List.ext_getElem?
    intro i
    rcases Nat.lt_or_ge i len with h | h
    · rw [(hlp i h).1]; simp [List.getD_eq_getElem?_getD, show i < l.length by omega]
    · rw [List.getElem?_eq_none (by omega), List.getElem?_eq_none (by simp; omega)]
  subst hll
  refine ⟨A, cap, l, rfl, by unfold RdE; rw [← hus]; exact hr, hl, ?_, fun u hu => ?_⟩
  · rcases hd with ⟨h1, h2⟩ | ⟨sp, rfl⟩
    · omega
    · have := hwt ((es.length + sp.length) * P.bytesOf e) (by simp [DataW.weights, ht])
      rw [hb] at this
      simp only [reachBytes] at this
      omega
  · obtain ⟨i, hi2⟩ := List.getElem?_of_mem hu
    have hlt := (List.getElem?_eq_some_iff.1 hi2).1
    have := (hlp i hlt).2
    rw [List.getD_eq_getElem?_getD, hi2] at this
    exact this
/-- A slice of slices of numbers. -/
theorem open_f64st {P : Program} {t t1 e : TypeId} {fuel : Nat} {cs : List Value} {d : DataW H} {p : List MemPlace} (ht : P.underlying t = some (.slice t1)) (ht1 : P.underlying t1 = some (.slice e)) (he : P.underlying e = some (.float .f64)) (hc1 : P.cellsOf t1 = 1) (hc : P.cellsOf e = 1) (hb1 : P.bytesOf t1 = 24) (hb : P.bytesOf e = 8)
    (h : DataW.trod enc P W 0 (fun _ => true) true fuel t cs = some (d, p)) (hwt : ∀ n ∈ d.weights P t, n ≤ reachBytes) :
    ∃ (A : Option Addr) (c : Nat) (S : List Sv) (ls : List (List Nat)), cs = [.slice A ls.length c] ∧ LsM W All A S ls ∧ (∀ x ∈ S, x.2.1 ≤ x.2.2) ∧ ls.length ≤ 5864062014805 := by
  obtain ⟨A, len, cap, us, es, rfl, hul, hel, hr, hl, hm, hd, hi⟩ := open_elems ht hc1 h
  have hes : len = 0 ∨ ∃ sp, d = .slice es sp := hd.imp (·.1) id
  obtain ⟨L, hLl, hL⟩ := list_choose (((none, 0, 0), []) : Sv × List Nat) len (Pr := fun i b => us[i]? = some (svV b.1) ∧ RdE W All fV b.1.1 b.2 ∧ b.1.2.1 = b.2.length ∧ b.1.2.1 ≤ b.1.2.2 ∧ b.2.length ≤ 17592186044416 ∧ ∀ u ∈ b.2, u < 18446744073709551616) fun i hi2 => by
    obtain ⟨u, di, n, pi, hu, hdi, htr⟩ := hi i hi2
    obtain ⟨A2, c2, l2, hcs2, hr2, hl2, hm2, hf2⟩ := open_f64t ht1 he hc hb htr fun n hn => by
      rcases hes with h0 | ⟨sp0, rfl⟩
      · omega
      · exact hwt n (by
          simp only [DataW.weights, ht, List.mem_cons, List.mem_append]
          exact .inr (.inl (weights_elem hdi _ hn)))
    simp only [List.cons.injEq, and_true] at hcs2
    subst hcs2
    exact ⟨((A2, l2.length, c2), l2), hu, hr2, rfl, hl2, hm2, hf2⟩
  have hg : ∀ (i : Nat) (b : Sv × List Nat), L[i]? = some b → i < len ∧ L.getD i ((none, 0, 0), []) = b := fun i b hb => ⟨by have := (List.getElem?_eq_some_iff.1 hb).1; omega, by rw [List.getD_eq_getElem?_getD, hb]; rfl⟩
  have hus : us = (L.map (·.1)).map svV := by
    apply List.ext_getElem?
    intro i
    rcases Nat.lt_or_ge i len with h | h
    · rw [(hL i h).1]; simp [List.getD_eq_getElem?_getD, show i < L.length by omega]
    · rw [List.getElem?_eq_none (by omega), List.getElem?_eq_none (by simp; omega)]
  refine ⟨A, cap, L.map (·.1), L.map (·.2), by simp [hLl], ⟨rdE_of (n := len) (by rw [← hus]; exact hr) (by simp [hLl]), by simp, fun i x l hx hl2 => ?_⟩, fun x hx => ?_, ?_⟩
  · rw [List.getElem?_map] at hx hl2
    obtain ⟨b, hb, rfl⟩ := Option.map_eq_some_iff.1 hx
    rw [hb] at hl2
    simp at hl2
    subst hl2
    obtain ⟨h1, h2⟩ := hg i b hb
    have := hL i h1
    rw [h2] at this
    exact ⟨this.2.1, this.2.2.1, this.2.2.2.2.1, this.2.2.2.2.2⟩
  · obtain ⟨b, hbm, rfl⟩ := List.mem_map.1 hx
    obtain ⟨i, hb⟩ := List.getElem?_of_mem hbm
    obtain ⟨h1, h2⟩ := hg i b hb
    have := hL i h1
    rw [h2] at this
    exact this.2.2.2.1
  · rcases hes with h0 | ⟨sp0, rfl⟩
    · simp [hLl, h0]
    · have := hwt ((es.length + sp0.length) * P.bytesOf t1) (by simp [DataW.weights, ht])
      rw [hb1] at this
      simp only [reachBytes] at this
      simp only [List.length_map, hLl]
      omega
set_option maxRecDepth 100000 in
theorem open_prop {v : Value} {d : DataW H} {p : List MemPlace} {base : Nat} (hok : Value.okWide Tryd.prog W .any base 25 v) (h : DataW.Trod enc Tryd.prog W 0 (fun _ => true) true 25 v d p) (hwt : ∀ n ∈ d.weights Tryd.prog 25, n ≤ reachBytes) :
    ∃ (C G M : Sv) (SG SM : List Sv) (q : Px), v = .agg ⟨propC C G M q⟩ ∧ PrM W All C G M SG SM q ∧ q.C.length ≤ C.2.2 ∧ q.G.length ≤ 5864062014805 ∧ q.M.length ≤ 5864062014805 := by
  obtain ⟨cs, rfl, hl, n, hf⟩ := open_struct Tryd.underlying25 hok h hwt
  have hc : Tryd.prog.cellsOf 25 = 7 := by kernel_rfl
  rw [hc] at hl
  have c1 : Tryd.prog.cellsOf 3 = 1 := by kernel_rfl
  have c2 : Tryd.prog.cellsOf 22 = 1 := by kernel_rfl
  have c3 : Tryd.prog.cellsOf 23 = 1 := by kernel_rfl
  match cs, hl with
  | [v0, v1, v2, v3, v4, v5, v6], _ =>
    obtain ⟨y0, q0, h0, w0⟩ := hf 0 22 0 1 rfl c2
    obtain ⟨y1, q1, h1, w1⟩ := hf 1 23 1 1 rfl c3
    obtain ⟨y2, q2, h2, _⟩ := hf 2 3 2 1 rfl c1
    obtain ⟨y3, q3, h3, w3⟩ := hf 3 23 3 1 rfl c3
    obtain ⟨y4, q4, h4, _⟩ := hf 4 3 4 1 rfl c1
    obtain ⟨y5, q5, h5, _⟩ := hf 5 3 5 1 rfl c1
    obtain ⟨y6, q6, h6, _⟩ := hf 6 3 6 1 rfl c1
    obtain ⟨x2, rfl, hx2⟩ := int_of_trod Tryd.underlying3 h2
    obtain ⟨x4, rfl, hx4⟩ := int_of_trod Tryd.underlying3 h4
    obtain ⟨x5, rfl, hx5⟩ := int_of_trod Tryd.underlying3 h5
    obtain ⟨x6, rfl, hx6⟩ := int_of_trod Tryd.underlying3 h6
    obtain ⟨A0, c0, l0, hcs0, hr0, hlc0, hm0, hf0⟩ := open_f64t Tryd.underlying22 Tryd.underlying62 (by kernel_rfl) (by kernel_rfl) h0 w0
    have hcs0 : [v0] = [Value.slice A0 l0.length c0] := hcs0
    simp only [List.cons.injEq, and_true] at hcs0
    subst hcs0
    obtain ⟨A1, k1, S1, l1, hcs1, hr1, hlc1, hm1⟩ := open_f64st Tryd.underlying23 Tryd.underlying22 Tryd.underlying62 (by kernel_rfl) (by kernel_rfl) (by kernel_rfl) (by kernel_rfl) h1 w1
    have hcs1 : [v1] = [Value.slice A1 l1.length k1] := hcs1
    simp only [List.cons.injEq, and_true] at hcs1
    subst hcs1
    obtain ⟨A3, k3, S3, l3, hcs3, hr3, hlc3, hm3⟩ := open_f64st Tryd.underlying23 Tryd.underlying22 Tryd.underlying62 (by kernel_rfl) (by kernel_rfl) (by kernel_rfl) (by kernel_rfl) h3 w3
    have hcs3 : [v3] = [Value.slice A3 l3.length k3] := hcs3
    simp only [List.cons.injEq, and_true] at hcs3
    subst hcs3
    exact ⟨(A0, l0.length, c0), (A1, l1.length, k1), (A3, l3.length, k3), S1, S3, ⟨l0, l1, x2, l3, x4, x5, x6⟩, rfl, ⟨hr0, rfl, hm0, hf0, hr1, rfl, Nat.le_trans hm1 (by decide), hr3, rfl, Nat.le_trans hm3 (by decide), hx2, hx4, hx5, hx6⟩, hlc0, hm1, hm3⟩
end
set_option maxRecDepth 100000 in
theorem CodeProps_lifted (os : Os) (started : os.Started) (H : Type) (enc : TypeId × Value → H) :
    ReturnsInHanded {} Tryd.checked os 3 .any (fun w args => (Rows.codePropsSpec.pre enc Tryd.prog Tryd.f3 [] false w args ∧ laidMetH Tryd.prog laid w) ∧ sizedMet enc Tryd.prog Tryd.f3 (OpenSpec.ofChange Rows.codePropsSpec) false w args) (Rows.codePropsSpec.post enc Tryd.prog Tryd.f3 false true false false) := by
  refine returnsInHanded_of_change_and (C := Tryd.checked) (X := fun w _ => laidMetH Tryd.prog laid w) (fun _ _ _ hh h => h.of_heap hh) own started (by kernel_rfl) Tryd.func3
    (ChangeSpec.witness_shaped (enc := enc) (C := Tryd.checked) (os := os) (X := fun w _ => laidMetH Tryd.prog laid w) false (World.laidAll Tryd.prog os laid) #[(.agg #[.slice none 0 0, .slice none 0 0, .int .i64 0, .slice none 0 0, .int .i64 0, .int .i64 0, .int .i64 0] : Value)] 8 (World.laidAll_os _ _ _)
      (World.shaped_of_ZipB (by kernel_rfl) (by kernel_rfl)) (by kernel_rfl) (by kernel_rfl) (by kernel_rfl)
      (by rw [MakeChecks.laidMetH_plain _ _ _ (by kernel_rfl)]; exact laidMet_laidAll _ (by kernel_rfl) (by kernel_rfl))) ?_
  intro W base args ds gs before hval0 hW hc hsz0 hL _
  have hU := tabs_of_laid hL
  have hsz : (DataW.weightsEach Tryd.prog (Tryd.f3.params.toList ++ Rows.codePropsSpec.plain.varTypes Tryd.prog) (ds ++ gs)).all (· ≤ reachBytes) = true := hsz0
  have hval : ∀ (j : Nat) t v, Tryd.f3.params[j]? = some t → args[j]? = some v → Value.okWide Tryd.prog W .any base t v := hval0
  have hW' := hW
  obtain ⟨p, q, hA0, hV, rfl, hfz, hnd⟩ := hW
  have hA : DataW.TrodAll enc Tryd.prog W 0 (fun _ => true) true Tryd.f3.params.toList args.toList ds p := hA0
  rw [Tryd.params3] at hA hval hsz
  obtain ⟨v0, vs0, d0, ds0, p0, q0, hargs, rfl, rfl, h0, r0⟩ := trodAll_cons hA
  obtain ⟨rfl, rfl, rfl⟩ := trodAll_nil r0
  obtain rfl : args = #[v0] := by cases args; simp_all
  obtain ⟨rfl, rfl⟩ := trodVars_none hV
  have k0 := h0
  have hwt0 : ∀ x ∈ d0.weights Tryd.prog 25, x ≤ reachBytes := fun x hx => by simpa using List.all_eq_true.1 hsz _ (DataW.weights_mem_each (j := 0) rfl rfl x hx)
  obtain ⟨C, G, M, SG, SM, q, rfl, hD, _, hg, hm⟩ := open_prop (hval 0 _ v0 rfl rfl) h0 hwt0
  clear hA0 hval0 hsz0 hsz
  refine (CodeProps_calls C G M SG SM q W hD hg hm).mono fun e W' ⟨he, bel⟩ => ?_
  subst he
  exact ⟨_, rfl, _, _, _, [], _, [], hW', trodAll_mk1 (shut_bool Tryd.underlying4 _), (trodAll_cons_mk (trod_stays (by kernel_rfl) (of_decide_eq_true (by kernel_rfl)) k0 bel) trodAll_mk0), rfl, bel.frame _, fun h => by cases h⟩
theorem CodeProps_holds : Rows.CodePropsSaid :=
  OpenClaim.holds_of_wide 3 Tryd.f3 rfl rfl rfl rfl rfl rfl rfl ⟨rfl, rfl, rfl, rfl, rfl⟩ rfl rfl rfl rfl rfl (by kernel_rfl) Tryd.func3 (by kernel_rfl)
    (of_decide_eq_true (by kernel_rfl)) (by unfold Func.isWrapper; rw [if_neg (of_decide_eq_false (by kernel_rfl))]; exact ⟨rfl, rfl⟩)
    (fun os started H enc _ => CodeProps_lifted os started H enc)
theorem CodeProps_card : Rows.CodePropsCardSaid :=
  Claim7.holds_tied_plain_at .later [] [.data, .pinned] true (true, "1d117f41470a16a90798cd8bcf0bf166d302920c9dc6637a12117cacc6c52bfd") true
    CodeProps_holds (fun _ h => by cases h) (by kernel_rfl) (fun _ h => by cases h) codeProps_row_tie rfl ⟨rfl, rfl⟩ (by kernel_rfl) rfl
    (fun f fn hf hfn => by
      obtain rfl : f = 3 := Option.some.inj ((show Tryd.prog.funcNamed "ambit/ambitlaw8.CodeProps" = some 3 by kernel_rfl).symm.trans hf) |>.symm
      obtain rfl : fn = Tryd.f3 := (Option.some.inj (Tryd.func3.symm.trans hfn)).symm
      exact ⟨by kernel_rfl, fun j t ht => noStandIn (by kernel_rfl) ht⟩)
    (by kernel_rfl)
end Go.Proofs.YtnomlloaahoceaaDoor
