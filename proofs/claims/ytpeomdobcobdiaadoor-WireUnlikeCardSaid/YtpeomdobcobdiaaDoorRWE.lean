/- The row of WireUnlike and its card. No condition beyond the given row's. -/
import Derived.Test.YtpeomdobcobdiaaDoorWE
import Derived.Test.YtpeomdobcobdiaaDoorThO
import Derived.Test.YtpeomdobcobdiaaDoorRowL
namespace Go.Proofs.YtpeomdobcobdiaaDoor
open Go.ChangeShapes Go.WideShapes Go.ChangeAt Go.RowKit
open Go.ChangeMaps (open_string shut_string)
set_option linter.unusedVariables false
set_option maxRecDepth 100000 in
theorem WireUnlike_lifted (os : Os) (started : os.Started) (H : Type) (enc : TypeId × Value → H) :
    ReturnsInHanded {} Tryd.checked os 14 .any (fun w args => (Rows.wireUnlikeSpec.pre enc Tryd.prog Tryd.f14 [] false w args ∧ laidMetH Tryd.prog laid w) ∧ sizedMet enc Tryd.prog Tryd.f14 (OpenSpec.ofChange Rows.wireUnlikeSpec) false w args) (Rows.wireUnlikeSpec.post enc Tryd.prog Tryd.f14 false true false false) := by
  refine returnsInHanded_of_change_and (C := Tryd.checked) (X := fun w _ => laidMetH Tryd.prog laid w) (fun _ _ _ hh h => h.of_heap hh) own started (by kernel_rfl) Tryd.func14
    (ChangeSpec.witness_shaped (enc := enc) (C := Tryd.checked) (os := os) (X := fun w _ => laidMetH Tryd.prog laid w) false (World.laidAll Tryd.prog os laid) #[(.agg #[.int .i64 0, .int .i64 0, .int .u64 0, .string ⟨#[]⟩, .slice none 0 0] : Value), (.agg #[.int .i64 0, .int .i64 0, .int .u64 0, .string ⟨#[]⟩, .slice none 0 0] : Value), (.int .i64 0 : Value)] 8 (World.laidAll_os _ _ _)
      (World.shaped_of_ZipB (by kernel_rfl) (by kernel_rfl)) (by kernel_rfl) (by kernel_rfl) (by kernel_rfl)
      (by rw [MakeChecks.laidMetH_plain _ _ _ (by kernel_rfl)]; exact laidMet_laidAll _ (by kernel_rfl) (by kernel_rfl))) ?_
  intro W base args ds gs before hval0 hW hc hsz0 hL _
  have hU := tabs_of_laid hL
  have hsz : (DataW.weightsEach Tryd.prog (Tryd.f14.params.toList ++ Rows.wireUnlikeSpec.plain.varTypes Tryd.prog) (ds ++ gs)).all (· ≤ reachBytes) = true := hsz0
  have hval : ∀ (j : Nat) t v, Tryd.f14.params[j]? = some t → args[j]? = some v → Value.okWide Tryd.prog W .any base t v := hval0
  have hW' := hW
  obtain ⟨p, q, hA0, hV, rfl, hfz, hnd⟩ := hW
  have hA : DataW.TrodAll enc Tryd.prog W 0 (fun _ => true) true Tryd.f14.params.toList args.toList ds p := hA0
  rw [Tryd.params14] at hA hval hsz
  obtain ⟨v0, vs0, d0, ds0, p0, q0, hargs, rfl, rfl, h0, r0⟩ := trodAll_cons hA
  obtain ⟨v1, vs1, d1, ds1, p1, q1, rfl, rfl, rfl, h1, r1⟩ := trodAll_cons r0
  obtain ⟨v2, vs2, d2, ds2, p2, q2, rfl, rfl, rfl, h2, r2⟩ := trodAll_cons r1
  obtain ⟨rfl, rfl, rfl⟩ := trodAll_nil r2
  obtain rfl : args = #[v0, v1, v2] := by cases args; simp_all
  obtain ⟨rfl, rfl⟩ := trodVars_none hV
  have k0 := h0
  have hwt0 : ∀ x ∈ d0.weights Tryd.prog 85, x ≤ reachBytes := fun x hx => by simpa using List.all_eq_true.1 hsz _ (DataW.weights_mem_each (j := 0) rfl rfl x hx)
  have k1 := h1
  have hwt1 : ∀ x ∈ d1.weights Tryd.prog 85, x ≤ reachBytes := fun x hx => by simpa using List.all_eq_true.1 hsz _ (DataW.weights_mem_each (j := 1) rfl rfl x hx)
  have k2 := h2
  have hwt2 : ∀ x ∈ d2.weights Tryd.prog 3, x ≤ reachBytes := fun x hx => by simpa using List.all_eq_true.1 hsz _ (DataW.weights_mem_each (j := 2) rfl rfl x hx)
  obtain ⟨a2, rfl, rfl, rfl, w2⟩ := open_int Tryd.underlying3 (hval 2 3 v2 rfl rfl) h2
  have x2 : -9223372036854775808 ≤ a2 ∧ a2 ≤ 9223372036854775807 := by have e1 : IntKind.i64.min = -9223372036854775808 := rfl; have e2 : IntKind.i64.max = 9223372036854775807 := rfl; simp [Lit.wf, e1, e2] at w2; exact w2
  obtain ⟨s, A0, c0, rfl, g1, g2, g3, g4, g5, g6⟩ := open_thing (hval 0 _ v0 rfl rfl) h0 hwt0
  obtain ⟨t, A1, c1, rfl, _, m2, m3, m4, m5, m6⟩ := open_thing (hval 1 _ v1 rfl rfl) h1 hwt1
  clear hA0 hval0 hsz0 hsz
  refine (WireUnlike_calls s t A0 c0 A1 c1 a2 W hU g1 g2 g3 (by omega) m2 m3 (by omega) g5 g6 m5 m6 x2).mono fun e W' ⟨he, bel⟩ => ?_
  subst he
  exact ⟨_, rfl, _, _, _, [], _, [], hW', trodAll_mk1 (shut_bool Tryd.underlying4 _), (trodAll_cons_mk (trod_stays (by kernel_rfl) (of_decide_eq_true (by kernel_rfl)) k0 bel) (trodAll_cons_mk (trod_stays (by kernel_rfl) (of_decide_eq_true (by kernel_rfl)) k1 bel) (trodAll_cons_mk (trod_stays (by kernel_rfl) (of_decide_eq_true (by kernel_rfl)) k2 bel) trodAll_mk0))), rfl, bel.frame _, fun h => by cases h⟩
theorem WireUnlike_holds : Rows.WireUnlikeSaid :=
  OpenClaim.holds_of_wide 14 Tryd.f14 rfl rfl rfl rfl rfl rfl rfl ⟨rfl, rfl, rfl, rfl, rfl⟩ rfl rfl rfl rfl rfl (by kernel_rfl) Tryd.func14 (by kernel_rfl)
    (of_decide_eq_true (by kernel_rfl)) (by unfold Func.isWrapper; rw [if_neg (of_decide_eq_false (by kernel_rfl))]; exact ⟨rfl, rfl⟩)
    (fun os started H enc _ => WireUnlike_lifted os started H enc)
theorem WireUnlike_card : Rows.WireUnlikeCardSaid :=
  Claim7.holds_tied_plain_at .later [] [.data, .pinned] true (true, "b39d8845e818edf87ae85891ff4defe9461ab3ee6fb0e654fcce38d20382c847") false
    WireUnlike_holds (fun _ h => by cases h) (by kernel_rfl) (fun _ h => by cases h) wireUnlike_row_tie rfl ⟨rfl, rfl⟩ (by kernel_rfl) rfl
    (fun f fn hf hfn => by
      obtain rfl : f = 14 := Option.some.inj ((show Tryd.prog.funcNamed "ambit/ambitlaw1.WireUnlike" = some 14 by kernel_rfl).symm.trans hf) |>.symm
      obtain rfl : fn = Tryd.f14 := (Option.some.inj (Tryd.func14.symm.trans hfn)).symm
      exact ⟨by kernel_rfl, fun j t ht => noStandIn (by kernel_rfl) ht⟩)
    (by kernel_rfl)
end Go.Proofs.YtpeomdobcobdiaaDoor
