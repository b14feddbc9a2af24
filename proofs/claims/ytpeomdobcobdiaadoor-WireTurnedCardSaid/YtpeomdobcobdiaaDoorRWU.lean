/- The row of WireTurned and its card. No condition beyond the given row's. -/
import Derived.Test.YtpeomdobcobdiaaDoorWU
import Derived.Test.YtpeomdobcobdiaaDoorRowL
namespace Go.Proofs.YtpeomdobcobdiaaDoor
open Go.ChangeShapes Go.WideShapes Go.ChangeAt Go.RowKit
open Go.ChangeMaps (open_string shut_string)
set_option linter.unusedVariables false
set_option maxRecDepth 100000 in
theorem WireTurned_lifted (os : Os) (started : os.Started) (H : Type) (enc : TypeId × Value → H) :
    ReturnsInHanded {} Tryd.checked os 10 .any (fun w args => (Rows.wireTurnedSpec.pre enc Tryd.prog Tryd.f10 [] false w args ∧ laidMetH Tryd.prog laid w) ∧ sizedMet enc Tryd.prog Tryd.f10 (OpenSpec.ofChange Rows.wireTurnedSpec) false w args) (Rows.wireTurnedSpec.post enc Tryd.prog Tryd.f10 false true false false) := by
  refine returnsInHanded_of_change_and (C := Tryd.checked) (X := fun w _ => laidMetH Tryd.prog laid w) (fun _ _ _ hh h => h.of_heap hh) own started (by kernel_rfl) Tryd.func10
    (ChangeSpec.witness_shaped (enc := enc) (C := Tryd.checked) (os := os) (X := fun w _ => laidMetH Tryd.prog laid w) false (World.laidAll Tryd.prog os laid) #[(.slice none 0 0 : Value), (.slice none 0 0 : Value), (.int .i64 0 : Value), (.int .u32 0 : Value), (.slice none 0 0 : Value)] 8 (World.laidAll_os _ _ _)
      (World.shaped_of_ZipB (by kernel_rfl) (by kernel_rfl)) (by kernel_rfl) (by kernel_rfl) (by kernel_rfl)
      (by rw [MakeChecks.laidMetH_plain _ _ _ (by kernel_rfl)]; exact laidMet_laidAll _ (by kernel_rfl) (by kernel_rfl))) ?_
  intro W base args ds gs before hval0 hW hc hsz0 hL _
  have hU := tabs_of_laid hL
  have hsz : (DataW.weightsEach Tryd.prog (Tryd.f10.params.toList ++ Rows.wireTurnedSpec.plain.varTypes Tryd.prog) (ds ++ gs)).all (· ≤ reachBytes) = true := hsz0
  have hval : ∀ (j : Nat) t v, Tryd.f10.params[j]? = some t → args[j]? = some v → Value.okWide Tryd.prog W .any base t v := hval0
  have hW' := hW
  obtain ⟨p, q, hA0, hV, rfl, hfz, hnd⟩ := hW
  have hA : DataW.TrodAll enc Tryd.prog W 0 (fun _ => true) true Tryd.f10.params.toList args.toList ds p := hA0
  rw [Tryd.params10] at hA hval hsz
  obtain ⟨v0, vs0, d0, ds0, p0, q0, hargs, rfl, rfl, h0, r0⟩ := trodAll_cons hA
  obtain ⟨v1, vs1, d1, ds1, p1, q1, rfl, rfl, rfl, h1, r1⟩ := trodAll_cons r0
  obtain ⟨v2, vs2, d2, ds2, p2, q2, rfl, rfl, rfl, h2, r2⟩ := trodAll_cons r1
  obtain ⟨v3, vs3, d3, ds3, p3, q3, rfl, rfl, rfl, h3, r3⟩ := trodAll_cons r2
  obtain ⟨v4, vs4, d4, ds4, p4, q4, rfl, rfl, rfl, h4, r4⟩ := trodAll_cons r3
  obtain ⟨rfl, rfl, rfl⟩ := trodAll_nil r4
  obtain rfl : args = #[v0, v1, v2, v3, v4] := by cases args; simp_all
  obtain ⟨rfl, rfl⟩ := trodVars_none hV
  have k0 := h0
  have hwt0 : ∀ x ∈ d0.weights Tryd.prog 22, x ≤ reachBytes := fun x hx => by simpa using List.all_eq_true.1 hsz _ (DataW.weights_mem_each (j := 0) rfl rfl x hx)
  have k1 := h1
  have hwt1 : ∀ x ∈ d1.weights Tryd.prog 40, x ≤ reachBytes := fun x hx => by simpa using List.all_eq_true.1 hsz _ (DataW.weights_mem_each (j := 1) rfl rfl x hx)
  have k2 := h2
  have hwt2 : ∀ x ∈ d2.weights Tryd.prog 3, x ≤ reachBytes := fun x hx => by simpa using List.all_eq_true.1 hsz _ (DataW.weights_mem_each (j := 2) rfl rfl x hx)
  have k3 := h3
  have hwt3 : ∀ x ∈ d3.weights Tryd.prog 37, x ≤ reachBytes := fun x hx => by simpa using List.all_eq_true.1 hsz _ (DataW.weights_mem_each (j := 3) rfl rfl x hx)
  have k4 := h4
  have hwt4 : ∀ x ∈ d4.weights Tryd.prog 22, x ≤ reachBytes := fun x hx => by simpa using List.all_eq_true.1 hsz _ (DataW.weights_mem_each (j := 4) rfl rfl x hx)
  obtain ⟨A0, c0, l0, rfl, rd0, lc0, cm0, dd0⟩ := open_u8s Tryd.underlying22 Tryd.underlying5 (by kernel_rfl) (hval 0 22 v0 rfl rfl) h0
  have x0 : l0.length ≤ 140737488351232 := by
    rcases dd0 with ⟨rfl, _⟩ | ⟨el, sp, rfl, hl⟩
    · simp
    · have z := hwt0 ((el.length + sp.length) * Tryd.prog.bytesOf 5) (by simp [DataW.weights, Tryd.underlying22])
      have eb : Tryd.prog.bytesOf 5 = 1 := by kernel_rfl
      rw [eb] at z
      simp only [reachBytes] at z
      omega
  obtain ⟨A1, c1, l1, rfl, rd1, lc1, x1, z1⟩ := open_i64s Tryd.underlying40 Tryd.underlying3 (by kernel_rfl) (by kernel_rfl) (hval 1 40 v1 rfl rfl) h1 hwt1
  obtain ⟨a2, rfl, rfl, rfl, w2⟩ := open_int Tryd.underlying3 (hval 2 3 v2 rfl rfl) h2
  have x2 : -9223372036854775808 ≤ a2 ∧ a2 ≤ 9223372036854775807 := by have e1 : IntKind.i64.min = -9223372036854775808 := rfl; have e2 : IntKind.i64.max = 9223372036854775807 := rfl; simp [Lit.wf, e1, e2] at w2; exact w2
  obtain ⟨a3, rfl, rfl, rfl, w3⟩ := open_int Tryd.underlying37 (hval 3 37 v3 rfl rfl) h3
  have x3 : 0 ≤ a3 ∧ a3 ≤ 4294967295 := by have e1 : IntKind.u32.min = 0 := rfl; have e2 : IntKind.u32.max = 4294967295 := rfl; simp [Lit.wf, e1, e2] at w3; exact w3
  obtain ⟨A4, c4, l4, rfl, rd4, lc4, cm4, dd4⟩ := open_u8s Tryd.underlying22 Tryd.underlying5 (by kernel_rfl) (hval 4 22 v4 rfl rfl) h4
  have x4 : l4.length ≤ 140737488351232 := by
    rcases dd4 with ⟨rfl, _⟩ | ⟨el, sp, rfl, hl⟩
    · simp
    · have z := hwt4 ((el.length + sp.length) * Tryd.prog.bytesOf 5) (by simp [DataW.weights, Tryd.underlying22])
      have eb : Tryd.prog.bytesOf 5 = 1 := by kernel_rfl
      rw [eb] at z
      simp only [reachBytes] at z
      omega
  clear hA0 hval0 hsz0 hsz
  refine (WireTurned_calls A0 c0 l0 A1 c1 l1 a2 a3 A4 c4 l4 W hU rd0 lc0 (by omega) rd1 (by omega) z1 x2 x3 rd4 lc4 (by omega)).mono fun e W' ⟨he, bel⟩ => ?_
  subst he
  exact ⟨_, rfl, _, _, _, [], _, [], hW', trodAll_mk1 (shut_bool Tryd.underlying4 _), (trodAll_cons_mk (trod_stays (by kernel_rfl) (of_decide_eq_true (by kernel_rfl)) k0 bel) (trodAll_cons_mk (trod_stays (by kernel_rfl) (of_decide_eq_true (by kernel_rfl)) k1 bel) (trodAll_cons_mk (trod_stays (by kernel_rfl) (of_decide_eq_true (by kernel_rfl)) k2 bel) (trodAll_cons_mk (trod_stays (by kernel_rfl) (of_decide_eq_true (by kernel_rfl)) k3 bel) (trodAll_cons_mk (trod_stays (by kernel_rfl) (of_decide_eq_true (by kernel_rfl)) k4 bel) trodAll_mk0))))), rfl, bel.frame _, fun h => by cases h⟩
theorem WireTurned_holds : Rows.WireTurnedSaid :=
  OpenClaim.holds_of_wide 10 Tryd.f10 rfl rfl rfl rfl rfl rfl rfl ⟨rfl, rfl, rfl, rfl, rfl⟩ rfl rfl rfl rfl rfl (by kernel_rfl) Tryd.func10 (by kernel_rfl)
    (of_decide_eq_true (by kernel_rfl)) (by unfold Func.isWrapper; rw [if_neg (of_decide_eq_false (by kernel_rfl))]; exact ⟨rfl, rfl⟩)
    (fun os started H enc _ => WireTurned_lifted os started H enc)
theorem WireTurned_card : Rows.WireTurnedCardSaid :=
  Claim7.holds_tied_plain_at .later [] [.data, .pinned] true (true, "b39d8845e818edf87ae85891ff4defe9461ab3ee6fb0e654fcce38d20382c847") false
    WireTurned_holds (fun _ h => by cases h) (by kernel_rfl) (fun _ h => by cases h) wireTurned_row_tie rfl ⟨rfl, rfl⟩ (by kernel_rfl) rfl
    (fun f fn hf hfn => by
      obtain rfl : f = 10 := Option.some.inj ((show Tryd.prog.funcNamed "ambit/ambitlaw1.WireTurned" = some 10 by kernel_rfl).symm.trans hf) |>.symm
      obtain rfl : fn = Tryd.f10 := (Option.some.inj (Tryd.func10.symm.trans hfn)).symm
      exact ⟨by kernel_rfl, fun j t ht => noStandIn (by kernel_rfl) ht⟩)
    (by kernel_rfl)
end Go.Proofs.YtpeomdobcobdiaaDoor
