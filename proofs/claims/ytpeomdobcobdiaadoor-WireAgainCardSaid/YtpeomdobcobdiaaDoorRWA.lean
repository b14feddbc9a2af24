/- The row of WireAgain and its card. No condition beyond the given row's. -/
import Derived.Test.YtpeomdobcobdiaaDoorWA
import Derived.Test.YtpeomdobcobdiaaDoorRowL
import Derived.Deep.SlicePairs
namespace Go.Proofs.YtpeomdobcobdiaaDoor
open Go.ChangeShapes Go.WideShapes Go.ChangeAt Go.RowKit
open Go.ChangeMaps (open_string shut_string)
set_option linter.unusedVariables false
/-- A slice of pairs of whole numbers. -/
theorem open_pairs {H : Type} {enc : TypeId × Value → H} {W : World} {P : Program} {t e : TypeId} {f0 f1 : Field} {v : Value} {d : DataW H} {p : List MemPlace} {base : Nat} (ht : P.underlying t = some (.slice e)) (he : P.underlying e = some (.struct #[f0, f1]))
    (ce : P.cellsOf e = 2) (o0 : f0.offset = 0) (o1 : f1.offset = 1) (c0 : P.cellsOf f0.type = 1) (c1 : P.cellsOf f1.type = 1) (u0 : P.underlying f0.type = some (.int .i64)) (u1 : P.underlying f1.type = some (.int .i64)) (hb : P.bytesOf e = 16)
    (hok : Value.okWide P W .any base t v) (h : DataW.Trod enc P W 0 (fun _ => true) true t v d p) (hwt : ∀ n ∈ d.weights P t, n ≤ reachBytes) :
    ∃ (A : Option Addr) (c : Nat) (l : List (Int × Int)), v = .slice A l.length c ∧ RdP W A l ∧ l.length ≤ c ∧ l.length * 16 ≤ 140737488355328 ∧ (∀ i, -9223372036854775808 ≤ (l.getD i (0, 0)).1 ∧ (l.getD i (0, 0)).1 ≤ 9223372036854775807) ∧ (∀ i, -9223372036854775808 ≤ (l.getD i (0, 0)).2 ∧ (l.getD i (0, 0)).2 ≤ 9223372036854775807) := by
  obtain ⟨A, len, cap, rfl⟩ := okWide_slice ht hok
  obtain ⟨fuel, hf⟩ := h
  rcases Go.Deep.open_slice_pairs ht he ce o0 o1 c0 c1 hf with ⟨hcs, _⟩ | ⟨a, len', cap', m, n, V0, V1, D0, D1, P0, P1, hcs, _, hl, hm, hmm, hx, hi⟩
  · simp [Value.cells] at hcs
    obtain ⟨rfl, rfl, rfl⟩ := hcs
    exact ⟨none, 0, [], rfl, fun h => absurd h (by simp), by simp, by simp, by simp, by simp⟩
  · simp [Value.cells] at hcs
    obtain ⟨rfl, rfl, rfl⟩ := hcs
    simp only [if_true] at hmm
    subst hmm
    obtain ⟨L, hLl, hL⟩ := list_choose ((0, 0) : Int × Int) len (Pr := fun i b => V0 i = iV b.1 ∧ V1 i = iV b.2 ∧ (-9223372036854775808 ≤ b.1 ∧ b.1 ≤ 9223372036854775807) ∧ (-9223372036854775808 ≤ b.2 ∧ b.2 ≤ 9223372036854775807)) fun i hi2 => by
      obtain ⟨_, _, h0, h1⟩ := hi i (by omega)
      obtain ⟨x, hx0, _, hw0⟩ := DataW.trod_int u0 h0
      obtain ⟨y, hy0, _, hw1⟩ := DataW.trod_int u1 h1
      simp only [List.cons.injEq, and_true] at hx0 hy0
      have e1 : IntKind.i64.min = -9223372036854775808 := rfl
      have e2 : IntKind.i64.max = 9223372036854775807 := rfl
      simp [Lit.wf, e1, e2] at hw0 hw1
      exact ⟨(x, y), by rw [hx0]; rfl, by rw [hy0]; rfl, hw0, hw1⟩
    refine ⟨some a, _, L, by rw [hLl], fun _ => ⟨a, rfl, fun i hi2 => ?_⟩, by omega, ?_, fun i => ?_, fun i => ?_⟩
    · obtain ⟨h0, h1, _, _⟩ := hi i (by omega)
      obtain ⟨g0, g1, _, _⟩ := hL i (by omega)
      refine ⟨by rw [h0, g0]; rfl, ?_⟩
      rw [Go.Deep.add_add, h1, g1]; rfl
    · have := hwt ((len + (m - len)) * P.bytesOf e) (by
        have := (Prod.mk.inj hx).1
        subst this
        simp [DataW.weights, ht])
      rw [hb] at this
      simp only [reachBytes] at this
      omega
    · rcases Nat.lt_or_ge i len with h | h
      · exact (hL i h).2.2.1
      · rw [List.getD_eq_getElem?_getD, List.getElem?_eq_none (by omega)]; simp
    · rcases Nat.lt_or_ge i len with h | h
      · exact (hL i h).2.2.2
      · rw [List.getD_eq_getElem?_getD, List.getElem?_eq_none (by omega)]; simp
set_option maxRecDepth 100000 in
theorem WireAgain_lifted (os : Os) (started : os.Started) (H : Type) (enc : TypeId × Value → H) :
    ReturnsInHanded {} Tryd.checked os 11 .any (fun w args => (Rows.wireAgainSpec.pre enc Tryd.prog Tryd.f11 [] false w args ∧ laidMetH Tryd.prog laid w) ∧ sizedMet enc Tryd.prog Tryd.f11 (OpenSpec.ofChange Rows.wireAgainSpec) false w args) (Rows.wireAgainSpec.post enc Tryd.prog Tryd.f11 false true false false) := by
  refine returnsInHanded_of_change_and (C := Tryd.checked) (X := fun w _ => laidMetH Tryd.prog laid w) (fun _ _ _ hh h => h.of_heap hh) own started (by kernel_rfl) Tryd.func11
    (ChangeSpec.witness_shaped (enc := enc) (C := Tryd.checked) (os := os) (X := fun w _ => laidMetH Tryd.prog laid w) false (World.laidAll Tryd.prog os laid) #[(.slice none 0 0 : Value), (.int .i64 0 : Value), (.slice none 0 0 : Value)] 8 (World.laidAll_os _ _ _)
      (World.shaped_of_ZipB (by kernel_rfl) (by kernel_rfl)) (by kernel_rfl) (by kernel_rfl) (by kernel_rfl)
      (by rw [MakeChecks.laidMetH_plain _ _ _ (by kernel_rfl)]; exact laidMet_laidAll _ (by kernel_rfl) (by kernel_rfl))) ?_
  intro W base args ds gs before hval0 hW hc hsz0 hL _
  have hU := tabs_of_laid hL
  have hsz : (DataW.weightsEach Tryd.prog (Tryd.f11.params.toList ++ Rows.wireAgainSpec.plain.varTypes Tryd.prog) (ds ++ gs)).all (· ≤ reachBytes) = true := hsz0
  have hval : ∀ (j : Nat) t v, Tryd.f11.params[j]? = some t → args[j]? = some v → Value.okWide Tryd.prog W .any base t v := hval0
  have hW' := hW
  obtain ⟨p, q, hA0, hV, rfl, hfz, hnd⟩ := hW
  have hA : DataW.TrodAll enc Tryd.prog W 0 (fun _ => true) true Tryd.f11.params.toList args.toList ds p := hA0
  rw [Tryd.params11] at hA hval hsz
  obtain ⟨v0, vs0, d0, ds0, p0, q0, hargs, rfl, rfl, h0, r0⟩ := trodAll_cons hA
  obtain ⟨v1, vs1, d1, ds1, p1, q1, rfl, rfl, rfl, h1, r1⟩ := trodAll_cons r0
  obtain ⟨v2, vs2, d2, ds2, p2, q2, rfl, rfl, rfl, h2, r2⟩ := trodAll_cons r1
  obtain ⟨rfl, rfl, rfl⟩ := trodAll_nil r2
  obtain rfl : args = #[v0, v1, v2] := by cases args; simp_all
  obtain ⟨rfl, rfl⟩ := trodVars_none hV
  have k0 := h0
  have hwt0 : ∀ x ∈ d0.weights Tryd.prog 22, x ≤ reachBytes := fun x hx => by simpa using List.all_eq_true.1 hsz _ (DataW.weights_mem_each (j := 0) rfl rfl x hx)
  have k1 := h1
  have hwt1 : ∀ x ∈ d1.weights Tryd.prog 3, x ≤ reachBytes := fun x hx => by simpa using List.all_eq_true.1 hsz _ (DataW.weights_mem_each (j := 1) rfl rfl x hx)
  have k2 := h2
  have hwt2 : ∀ x ∈ d2.weights Tryd.prog 75, x ≤ reachBytes := fun x hx => by simpa using List.all_eq_true.1 hsz _ (DataW.weights_mem_each (j := 2) rfl rfl x hx)
  obtain ⟨A0, c0, l0, rfl, rd0, lc0, cm0, dd0⟩ := open_u8s Tryd.underlying22 Tryd.underlying5 (by kernel_rfl) (hval 0 22 v0 rfl rfl) h0
  have x0 : l0.length ≤ 140737488351232 := by
    rcases dd0 with ⟨rfl, _⟩ | ⟨el, sp, rfl, hl⟩
    · simp
    · have z := hwt0 ((el.length + sp.length) * Tryd.prog.bytesOf 5) (by simp [DataW.weights, Tryd.underlying22])
      have eb : Tryd.prog.bytesOf 5 = 1 := by kernel_rfl
      rw [eb] at z
      simp only [reachBytes] at z
      omega
  obtain ⟨a1, rfl, rfl, rfl, w1⟩ := open_int Tryd.underlying3 (hval 1 3 v1 rfl rfl) h1
  have x1 : -9223372036854775808 ≤ a1 ∧ a1 ≤ 9223372036854775807 := by have e1 : IntKind.i64.min = -9223372036854775808 := rfl; have e2 : IntKind.i64.max = 9223372036854775807 := rfl; simp [Lit.wf, e1, e2] at w1; exact w1
  obtain ⟨A2, c2, ts, rfl, ht, lc2, x2, hr, hr2⟩ := open_pairs Tryd.underlying75 Tryd.underlying77 (by kernel_rfl) rfl rfl (by kernel_rfl) (by kernel_rfl) Tryd.underlying3 Tryd.underlying3 (by kernel_rfl) (hval 2 75 v2 rfl rfl) h2 hwt2
  clear hA0 hval0 hsz0 hsz
  refine (WireAgain_calls A0 c0 l0 a1 A2 c2 ts W hU rd0 lc0 (by omega) x1.1 ht hr).mono fun e W' ⟨he, bel⟩ => ?_
  subst he
  exact ⟨_, rfl, _, _, _, [], _, [], hW', trodAll_mk1 (shut_bool Tryd.underlying4 _), (trodAll_cons_mk (trod_stays (by kernel_rfl) (of_decide_eq_true (by kernel_rfl)) k0 bel) (trodAll_cons_mk (trod_stays (by kernel_rfl) (of_decide_eq_true (by kernel_rfl)) k1 bel) (trodAll_cons_mk (trod_stays (by kernel_rfl) (of_decide_eq_true (by kernel_rfl)) k2 bel) trodAll_mk0))), rfl, bel.frame _, fun h => by cases h⟩
theorem WireAgain_holds : Rows.WireAgainSaid :=
  OpenClaim.holds_of_wide 11 Tryd.f11 rfl rfl rfl rfl rfl rfl rfl ⟨rfl, rfl, rfl, rfl, rfl⟩ rfl rfl rfl rfl rfl (by kernel_rfl) Tryd.func11 (by kernel_rfl)
    (of_decide_eq_true (by kernel_rfl)) (by unfold Func.isWrapper; rw [if_neg (of_decide_eq_false (by kernel_rfl))]; exact ⟨rfl, rfl⟩)
    (fun os started H enc _ => WireAgain_lifted os started H enc)
theorem WireAgain_card : Rows.WireAgainCardSaid :=
  Claim7.holds_tied_plain_at .later [] [.data, .pinned] true (true, "b39d8845e818edf87ae85891ff4defe9461ab3ee6fb0e654fcce38d20382c847") false
    WireAgain_holds (fun _ h => by cases h) (by kernel_rfl) (fun _ h => by cases h) wireAgain_row_tie rfl ⟨rfl, rfl⟩ (by kernel_rfl) rfl
    (fun f fn hf hfn => by
      obtain rfl : f = 11 := Option.some.inj ((show Tryd.prog.funcNamed "ambit/ambitlaw1.WireAgain" = some 11 by kernel_rfl).symm.trans hf) |>.symm
      obtain rfl : fn = Tryd.f11 := (Option.some.inj (Tryd.func11.symm.trans hfn)).symm
      exact ⟨by kernel_rfl, fun j t ht => noStandIn (by kernel_rfl) ht⟩)
    (by kernel_rfl)
end Go.Proofs.YtpeomdobcobdiaaDoor
