/- CodeNetBytes returns true for every argument, as its given row and its card say. No condition beyond the given row's. -/
import Derived.Test.YtnomlloaahoceaaGreatDoorZ36
import Derived.Test.YtnomlloaahoceaaGreatDoorZ38
import Derived.Test.YtnomlloaahoceaaGreatDoorZ03
/- The row of CodeNetBytes and its card. No condition beyond the given row's. -/
namespace Go.Proofs.YtnomlloaahoceaaGreatDoor
open Go.ChangeShapes Go.WideShapes Go.ChangeAt Go.RowKit
open Go.ChangeMaps (open_string shut_string)
set_option linter.unusedVariables false
set_option maxRecDepth 100000 in
theorem CodeNetBytes_lifted (os : Os) (started : os.Started) (H : Type) (enc : TypeId × Value → H) :
 ReturnsInHanded {} Tryz.checked os 3 .any (fun w args => (Rows.codeNetBytesSpec.pre enc Tryz.prog Tryz.f3 [] false w args ∧ laidMetH Tryz.prog laid w) ∧ sizedMet enc Tryz.prog Tryz.f3 (OpenSpec.ofChange Rows.codeNetBytesSpec) false w args) (Rows.codeNetBytesSpec.post enc Tryz.prog Tryz.f3 false true false false) := by
 refine returnsInHanded_of_change_and (C := Tryz.checked) (X := fun w _ => laidMetH Tryz.prog laid w) (fun _ _ _ hh h => h.of_heap hh) own started (by kernel_rfl) Tryz.func3
  (ChangeSpec.witness_shaped (enc := enc) (C := Tryz.checked) (os := os) (X := fun w _ => laidMetH Tryz.prog laid w) false (World.laidAll Tryz.prog os laid) #[(.slice none 0 0 : Value)] 8 (World.laidAll_os _ _ _)
    (World.shaped_of_ZipB (by kernel_rfl) (by kernel_rfl)) (by kernel_rfl) (by kernel_rfl) (by kernel_rfl)
    (by rw [MakeChecks.laidMetH_plain _ _ _ (by kernel_rfl)]; exact laidMet_laidAll _ (by kernel_rfl) (by kernel_rfl))) ?_
 intro W base args ds gs before hval0 hW hc hsz0 hL _
 have hU := tabs_of_laid hL
 have hsz : (DataW.weightsEach Tryz.prog (Tryz.f3.params.toList ++ Rows.codeNetBytesSpec.plain.varTypes Tryz.prog) (ds ++ gs)).all (· ≤ reachBytes) = true := hsz0
 have hval : ∀ (j : Nat) t v, Tryz.f3.params[j]? = some t → args[j]? = some v → Value.okWide Tryz.prog W .any base t v := hval0
 have hW' := hW
 obtain ⟨p, q, hA0, hV, rfl, hfz, hnd⟩ := hW
 have hA : DataW.TrodAll enc Tryz.prog W 0 (fun _ => true) true Tryz.f3.params.toList args.toList ds p := hA0
 rw [Tryz.params3] at hA hval hsz
 obtain ⟨v0, vs0, d0, ds0, p0, q0, hargs, rfl, rfl, h0, r0⟩ := trodAll_cons hA
 obtain ⟨rfl, rfl, rfl⟩ := trodAll_nil r0
 obtain rfl : args = #[v0] := by cases args; simp_all
 obtain ⟨rfl, rfl⟩ := trodVars_none hV
 have k0 := h0
 have hwt0 : ∀ x ∈ d0.weights Tryz.prog 22, x ≤ reachBytes := fun x hx => by simpa using List.all_eq_true.1 hsz _ (DataW.weights_mem_each (j := 0) rfl rfl x hx)
 obtain ⟨A0, c0, l0, rfl, rd0, lc0, cm0, dd0⟩ := open_u8s Tryz.underlying22 Tryz.underlying5 (by kernel_rfl) (hval 0 22 v0 rfl rfl) h0
 have x0 : l0.length ≤ 140737488351232 := by
  rcases dd0 with ⟨rfl, _⟩ | ⟨el, sp, rfl, hl⟩
  ·simp
  have z := hwt0 ((el.length + sp.length) * Tryz.prog.bytesOf 5) (by simp [DataW.weights, Tryz.underlying22])
  have eb : Tryz.prog.bytesOf 5 = 1 := by kernel_rfl
  rw [eb] at z
  simp only [reachBytes] at z
  omega
 clear hA0 hval0 hsz0 hsz
 refine (CodeNetBytes_calls A0 c0 l0 W rd0 lc0 x0 hU).mono fun e W' ⟨he, bel⟩ => ?_
 subst he
 exact ⟨_, rfl, _, _, _, [], _, [], hW', trodAll_mk1 (shut_bool Tryz.underlying4 _), (trodAll_cons_mk (trod_stays (by kernel_rfl) (of_decide_eq_true (by kernel_rfl)) k0 bel) trodAll_mk0), rfl, bel.frame _, fun h => by cases h⟩
theorem CodeNetBytes_holds : Rows.CodeNetBytesSaid :=
 OpenClaim.holds_of_wide 3 Tryz.f3 rfl rfl rfl rfl rfl rfl rfl ⟨rfl, rfl, rfl, rfl, rfl⟩ rfl rfl rfl rfl rfl (by kernel_rfl) Tryz.func3 (by kernel_rfl)
  (of_decide_eq_true (by kernel_rfl)) (by unfold Func.isWrapper; rw [if_neg (of_decide_eq_false (by kernel_rfl))]; exact ⟨rfl, rfl⟩)
  (fun os started H enc _ => CodeNetBytes_lifted os started H enc)
theorem CodeNetBytes_card : Rows.CodeNetBytesCardSaid :=
 Claim7.holds_tied_plain_at .later [] [.data, .pinned] true (true, "12f9b151bcfd08b3eec4eb0e77ba9e05aad8c3551ec7b4de6a175cb5faaeaad2") true
  CodeNetBytes_holds (fun _ h => by cases h) (by kernel_rfl) (fun _ h => by cases h) codeNetBytes_row_tie rfl ⟨rfl, rfl⟩ (by kernel_rfl) rfl
  (fun f fn hf hfn => by
    obtain rfl : f = 3 := Option.some.inj ((show Tryz.prog.funcNamed "ambit/ambitlaw8.CodeNetBytes" = some 3 by kernel_rfl).symm.trans hf) |>.symm
    obtain rfl : fn = Tryz.f3 := (Option.some.inj (Tryz.func3.symm.trans hfn)).symm
    exact ⟨by kernel_rfl, fun j t ht => noStandIn (by kernel_rfl) ht⟩)
  (by kernel_rfl)
end Go.Proofs.YtnomlloaahoceaaGreatDoor
