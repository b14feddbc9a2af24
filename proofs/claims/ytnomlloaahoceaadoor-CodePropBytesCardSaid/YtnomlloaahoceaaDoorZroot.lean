/- CodePropBytes returns true for every argument, as its given row and its card say. No condition beyond the given row's. -/
import Derived.Test.YtnomlloaahoceaaDoorZ36
import Derived.Test.YtnomlloaahoceaaDoorZ38
/- The row of CodePropBytes and its card. No condition beyond the given row's. -/
namespace Go.Proofs.YtnomlloaahoceaaDoor
open Go.ChangeShapes Go.WideShapes Go.ChangeAt Go.RowKit
open Go.ChangeMaps (open_string shut_string)
set_option linter.unusedVariables false
set_option maxRecDepth 100000 in
theorem CodePropBytes_lifted (os : Os) (started : os.Started) (H : Type) (enc : TypeId × Value → H) :
    ReturnsInHanded {} Tryd.checked os 4 .any (fun w args => (Rows.codePropBytesSpec.pre enc Tryd.prog Tryd.f4 [] false w args ∧ laidMetH Tryd.prog laid w) ∧ sizedMet enc Tryd.prog Tryd.f4 (OpenSpec.ofChange Rows.codePropBytesSpec) false w args) (Rows.codePropBytesSpec.post enc Tryd.prog Tryd.f4 false true false false) := by
  refine returnsInHanded_of_change_and (C := Tryd.checked) (X := fun w _ => laidMetH Tryd.prog laid w) (fun _ _ _ hh h => h.of_heap hh) own started (by kernel_rfl) Tryd.func4
    (ChangeSpec.witness_shaped (enc := enc) (C := Tryd.checked) (os := os) (X := fun w _ => laidMetH Tryd.prog laid w) false (World.laidAll Tryd.prog os laid) #[(.slice none 0 0 : Value)] 8 (World.laidAll_os _ _ _)
      (World.shaped_of_ZipB (by kernel_rfl) (by kernel_rfl)) (by kernel_rfl) (by kernel_rfl) (by kernel_rfl)
      (by rw [MakeChecks.laidMetH_plain _ _ _ (by kernel_rfl)]; exact laidMet_laidAll _ (by kernel_rfl) (by kernel_rfl))) ?_
  intro W base args ds gs before hval0 hW hc hsz0 hL _
  have hU := tabs_of_laid hL
  have hsz : (DataW.weightsEach Tryd.prog (Tryd.f4.params.toList ++ Rows.codePropBytesSpec.plain.varTypes Tryd.prog) (ds ++ gs)).all (· ≤ reachBytes) = true := hsz0
  have hval : ∀ (j : Nat) t v, Tryd.f4.params[j]? = some t → args[j]? = some v → Value.okWide Tryd.prog W .any base t v := hval0
  have hW' := hW
  obtain ⟨p, q, hA0, hV, rfl, hfz, hnd⟩ := hW
  have hA : DataW.TrodAll enc Tryd.prog W 0 (fun _ => true) true Tryd.f4.params.toList args.toList ds p := hA0
  rw [Tryd.params4] at hA hval hsz
  obtain ⟨v0, vs0, d0, ds0, p0, q0, hargs, rfl, rfl, h0, r0⟩ := trodAll_cons hA
  obtain ⟨rfl, rfl, rfl⟩ := trodAll_nil r0
  obtain rfl : args = #[v0] := by cases args; simp_all
  obtain ⟨rfl, rfl⟩ := trodVars_none hV
  have k0 := h0
  have hwt0 : ∀ x ∈ d0.weights Tryd.prog 31, x ≤ reachBytes := fun x hx => by simpa using List.all_eq_true.1 hsz _ (DataW.weights_mem_each (j := 0) rfl rfl x hx)
  obtain ⟨A0, c0, l0, rfl, rd0, lc0, cm0, dd0⟩ := open_u8s Tryd.underlying31 Tryd.underlying5 (by kernel_rfl) (hval 0 31 v0 rfl rfl) h0
  have x0 : l0.length ≤ 140737488351232 := by
    rcases dd0 with ⟨rfl, _⟩ | ⟨el, sp, rfl, hl⟩
    · simp
    · have z := hwt0 ((el.length + sp.length) * Tryd.prog.bytesOf 5) (by simp [DataW.weights, Tryd.underlying31])
      have eb : Tryd.prog.bytesOf 5 = 1 := by kernel_rfl
      rw [eb] at z
      simp only [reachBytes] at z
      omega
  clear hA0 hval0 hsz0 hsz
  refine (CodePropBytes_calls A0 c0 l0 W rd0 lc0 x0).mono fun e W' ⟨he, bel⟩ => ?_
  subst he
  exact ⟨_, rfl, _, _, _, [], _, [], hW', trodAll_mk1 (shut_bool Tryd.underlying4 _), (trodAll_cons_mk (trod_stays (by kernel_rfl) (of_decide_eq_true (by kernel_rfl)) k0 bel) trodAll_mk0), rfl, bel.frame _, fun h => by cases h⟩
theorem CodePropBytes_holds : Rows.CodePropBytesSaid :=
  OpenClaim.holds_of_wide 4 Tryd.f4 rfl rfl rfl rfl rfl rfl rfl ⟨rfl, rfl, rfl, rfl, rfl⟩ rfl rfl rfl rfl rfl (by kernel_rfl) Tryd.func4 (by kernel_rfl)
    (of_decide_eq_true (by kernel_rfl)) (by unfold Func.isWrapper; rw [if_neg (of_decide_eq_false (by kernel_rfl))]; exact ⟨rfl, rfl⟩)
    (fun os started H enc _ => CodePropBytes_lifted os started H enc)
theorem CodePropBytes_card : Rows.CodePropBytesCardSaid :=
  Claim7.holds_tied_plain_at .later [] [.data, .pinned] true (true, "1d117f41470a16a90798cd8bcf0bf166d302920c9dc6637a12117cacc6c52bfd") true
    CodePropBytes_holds (fun _ h => by cases h) (by kernel_rfl) (fun _ h => by cases h) codePropBytes_row_tie rfl ⟨rfl, rfl⟩ (by kernel_rfl) rfl
    (fun f fn hf hfn => by
      obtain rfl : f = 4 := Option.some.inj ((show Tryd.prog.funcNamed "ambit/ambitlaw8.CodePropBytes" = some 4 by kernel_rfl).symm.trans hf) |>.symm
      obtain rfl : fn = Tryd.f4 := (Option.some.inj (Tryd.func4.symm.trans hfn)).symm
      exact ⟨by kernel_rfl, fun j t ht => noStandIn (by kernel_rfl) ht⟩)
    (by kernel_rfl)
end Go.Proofs.YtnomlloaahoceaaDoor
