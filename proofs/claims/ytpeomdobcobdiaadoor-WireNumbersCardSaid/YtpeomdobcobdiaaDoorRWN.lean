/- The row of WireNumbers and its card. No condition beyond the given row's. -/
import Derived.Test.YtpeomdobcobdiaaDoorWN
import Derived.Test.YtpeomdobcobdiaaDoorRowK
import Derived.Test.YtpeomdobcobdiaaDoorTie
import Derived.Test.YtpeomdobcobdiaaDoorCards
import Derived.Handed
import Derived.LaidLaws
import Derived.Lay
import Derived.MakeChecks
import Derived.Lib.LaidU8
import Derived.SevenTiedAt
import Derived.JoinedOf
namespace Go.Proofs.YtpeomdobcobdiaaDoor
open Go.ChangeShapes Go.WideShapes Go.ChangeAt Go.RowKit
open Go.ChangeMaps (open_string shut_string)
set_option linter.unusedVariables false
def laid : List (String × DataW Unit) := [("unicode/utf8.acceptRanges", Rows.laid_unicode_utf8_acceptRanges), ("unicode/utf8.first", Rows.laid_unicode_utf8_first)]
theorem tabs_of_laid {W : World} (hL : laidMetH Tryd.prog laid W) : Tabs W := by
  rw [MakeChecks.laidMetH_plain _ _ _ (by kernel_rfl)] at hL
  have e1 : Rows.laid_unicode_utf8_first = Go.Lib.firstData := by kernel_rfl
  have e2 : (Rows.laid_unicode_utf8_acceptRanges : DataW Unit) = Go.Lib.acceptData := by kernel_rfl
  exact utf8Tabs_of_reads (ρ := decRen) { decLays with } ⟨by kernel_rfl, by kernel_rfl, by kernel_rfl, by kernel_rfl, by kernel_rfl, by kernel_rfl, by kernel_rfl⟩ (e1 ▸ Lib.laidMet.reads hL (.tail _ (.head _))) (e2 ▸ Lib.laidMet.reads hL (.head _))
set_option maxRecDepth 100000 in
theorem WireNumbers_lifted (os : Os) (started : os.Started) (H : Type) (enc : TypeId × Value → H) :
    ReturnsInHanded {} Tryd.checked os 3 .any (fun w args => (Rows.wireNumbersSpec.pre enc Tryd.prog Tryd.f3 [] false w args ∧ laidMetH Tryd.prog laid w) ∧ sizedMet enc Tryd.prog Tryd.f3 (OpenSpec.ofChange Rows.wireNumbersSpec) false w args)
      (Rows.wireNumbersSpec.post enc Tryd.prog Tryd.f3 false true false false) := by
  refine returnsInHanded_of_change_and (C := Tryd.checked) (X := fun w _ => laidMetH Tryd.prog laid w) (fun _ _ _ hh h => h.of_heap hh) own started (by kernel_rfl) Tryd.func3
    (ChangeSpec.witness_shaped (enc := enc) (C := Tryd.checked) (os := os) (X := fun w _ => laidMetH Tryd.prog laid w) false (World.laidAll Tryd.prog os laid) #[.int .i64 0, .slice none 0 0, .int .i64 0] 8 (World.laidAll_os _ _ _)
      (World.shaped_of_ZipB (by kernel_rfl) (by kernel_rfl)) (by kernel_rfl) (by kernel_rfl) (by kernel_rfl)
      (by rw [MakeChecks.laidMetH_plain _ _ _ (by kernel_rfl)]; exact laidMet_laidAll _ (by kernel_rfl) (by kernel_rfl))) ?_
  intro W base args ds gs before hval0 hW hc hsz0 hL _
  have hU := tabs_of_laid hL
  have hsz : (DataW.weightsEach Tryd.prog (Tryd.f3.params.toList ++ Rows.wireNumbersSpec.plain.varTypes Tryd.prog) (ds ++ gs)).all (· ≤ reachBytes) = true := hsz0
  have hval : ∀ (j : Nat) t v, Tryd.f3.params[j]? = some t → args[j]? = some v → Value.okWide Tryd.prog W .any base t v := hval0
  have hW' := hW
  obtain ⟨p, q, hA0, hV, rfl, hfz, hnd⟩ := hW
  have hA : DataW.TrodAll enc Tryd.prog W 0 (fun _ => true) true Tryd.f3.params.toList args.toList ds p := hA0
  rw [Tryd.params3] at hA hval hsz
  obtain ⟨v0, vs0, d0, ds0, p0, q0, hargs, rfl, rfl, h0, r0⟩ := trodAll_cons hA
  obtain ⟨v1, vs1, d1, ds1, p1, q1, rfl, rfl, rfl, h1, r1⟩ := trodAll_cons r0
  obtain ⟨v2, vs2, d2, ds2, p2, q2, rfl, rfl, rfl, h2, r2⟩ := trodAll_cons r1
  obtain ⟨rfl, rfl, rfl⟩ := trodAll_nil r2
  obtain rfl : args = #[v0, v1, v2] := by cases args; simp_all
  obtain ⟨rfl, rfl⟩ := trodVars_none hV
  have k0 := h0
  have k1 := h1
  have k2 := h2
  obtain ⟨a0, rfl, rfl, rfl, w0⟩ := open_int Tryd.underlying3 (hval 0 3 v0 rfl rfl) h0
  obtain ⟨A1, c1, l1, rfl, rd1, lc1, cm1, dd1⟩ := open_u8s Tryd.underlying22 Tryd.underlying5 (by kernel_rfl) (hval 1 22 v1 rfl rfl) h1
  obtain ⟨a2, rfl, rfl, rfl, w2⟩ := open_int Tryd.underlying3 (hval 2 3 v2 rfl rfl) h2
  have y1 : l1.length ≤ 140737488355328 := by
    rcases dd1 with ⟨rfl, _⟩ | ⟨el, sp, rfl, hl⟩
    · simp
    · have := sized_slice hsz (j := 1) rfl rfl Tryd.underlying22
      have eb : Tryd.prog.bytesOf 5 = 1 := by kernel_rfl
      rw [eb] at this
      simp only [reachBytes] at this
      omega
  have x0 : a0 ≤ 9223372036854775807 := by have e2 : IntKind.i64.max = 9223372036854775807 := rfl; simp [Lit.wf, e2] at w0; exact w0.2
  clear hA0 hval0 hsz0 hsz
  refine (WireNumbers_calls a0 x0 A1 c1 l1 a2 W hU rd1 lc1 y1).mono fun e W' ⟨he, bel⟩ => ?_
  subst he
  exact ⟨_, rfl, _, _, _, [], _, [], hW', trodAll_mk1 (shut_bool Tryd.underlying4 _), (trodAll_cons_mk (trod_stays (by kernel_rfl) (of_decide_eq_true (by kernel_rfl)) k0 bel) (trodAll_cons_mk (trod_stays (by kernel_rfl) (of_decide_eq_true (by kernel_rfl)) k1 bel) (trodAll_cons_mk (trod_stays (by kernel_rfl) (of_decide_eq_true (by kernel_rfl)) k2 bel) trodAll_mk0))), rfl, bel.frame _, fun h => by cases h⟩
theorem WireNumbers_holds : Rows.WireNumbersSaid :=
  OpenClaim.holds_of_wide 3 Tryd.f3 rfl rfl rfl rfl rfl rfl rfl ⟨rfl, rfl, rfl, rfl, rfl⟩ rfl rfl rfl rfl rfl (by kernel_rfl) Tryd.func3 (by kernel_rfl)
    (of_decide_eq_true (by kernel_rfl)) (by unfold Func.isWrapper; rw [if_neg (of_decide_eq_false (by kernel_rfl))]; exact ⟨rfl, rfl⟩)
    (fun os started H enc _ => WireNumbers_lifted os started H enc)
theorem WireNumbers_card : Rows.WireNumbersCardSaid :=
  Claim7.holds_tied_plain_at .later [] [.data, .pinned] true (true, "b39d8845e818edf87ae85891ff4defe9461ab3ee6fb0e654fcce38d20382c847") false
    WireNumbers_holds (fun _ h => by cases h) (by kernel_rfl) (fun _ h => by cases h) wireNumbers_row_tie rfl ⟨rfl, rfl⟩ (by kernel_rfl) rfl
    (fun f fn hf hfn => by
      obtain rfl : f = 3 := Option.some.inj ((show Tryd.prog.funcNamed "ambit/ambitlaw1.WireNumbers" = some 3 by kernel_rfl).symm.trans hf) |>.symm
      obtain rfl : fn = Tryd.f3 := (Option.some.inj (Tryd.func3.symm.trans hfn)).symm
      exact ⟨by kernel_rfl, fun j t ht => noStandIn (by kernel_rfl) ht⟩)
    (by kernel_rfl)
end Go.Proofs.YtpeomdobcobdiaaDoor
