/- The row of RowsAlike. No condition beyond the given row's. -/
import Derived.Test.YtkfhablonnjgeaaAk2
import Derived.Test.YtkfhablonnjgeaaOpS
namespace Go.Proofs.Ytkfhablonnjgeaa
open Go.ChangeShapes Go.WideShapes Go.ChangeAt Go.RowKit
set_option linter.unusedVariables false
set_option maxRecDepth 100000 in
theorem RowsAlike_lifted (os : Os) (started : os.Started) (H : Type) (enc : TypeId × Value → H) :
    ReturnsInHanded {} Try.checked os 5 .any (Rows.rowsAlikeSpec.pre6 enc Try.prog Try.f5 Rows.rowsAlikeRow.domain false) (Rows.rowsAlikeSpec.post enc Try.prog Try.f5 false true false false) := by
  refine returnsInHanded_of_change_sized (C := Try.checked) own started (by kernel_rfl) Try.func5
    (ChangeSpec.witness6 (enc := enc) (C := Try.checked) false ⟨#[], #[(.int .i64 0 : Value), (.int .i64 0 : Value), (.agg #[.int .i64 0, .int .i64 0, .int .i64 0] : Value), (.int .i64 0 : Value)], []⟩ 8 (by kernel_rfl) (by kernel_rfl) (by kernel_rfl) (by kernel_rfl)) ?_
  intro W base args ds gs before hval0 hW hc hsz0 _
  have hsz : (DataW.weightsEach Try.prog (Try.f5.params.toList ++ Rows.rowsAlikeSpec.plain.varTypes Try.prog) (ds ++ gs)).all (· ≤ reachBytes) = true := hsz0
  have hval : ∀ (j : Nat) t v, Try.f5.params[j]? = some t → args[j]? = some v → Value.okWide Try.prog W .any base t v := hval0
  have hW' := hW
  obtain ⟨p, q, hA0, hV, rfl, hfz, hnd⟩ := hW
  have hA : DataW.TrodAll enc Try.prog W 0 (fun _ => true) true Try.f5.params.toList args.toList ds p := hA0
  rw [Try.params5] at hA hval hsz
  obtain ⟨v0, vs0, d0, ds0, p0, q0, hargs, rfl, rfl, h0, r0⟩ := trodAll_cons hA
  obtain ⟨v1, vs1, d1, ds1, p1, q1, rfl, rfl, rfl, h1, r1⟩ := trodAll_cons r0
  obtain ⟨v2, vs2, d2, ds2, p2, q2, rfl, rfl, rfl, h2, r2⟩ := trodAll_cons r1
  obtain ⟨v3, vs3, d3, ds3, p3, q3, rfl, rfl, rfl, h3, r3⟩ := trodAll_cons r2
  obtain ⟨rfl, rfl, rfl⟩ := trodAll_nil r3
  obtain rfl : args = #[v0, v1, v2, v3] := by cases args; simp_all
  obtain ⟨rfl, rfl⟩ := trodVars_none hV
  have k0 := h0
  have hwt0 : ∀ x ∈ d0.weights Try.prog 3, x ≤ reachBytes := fun x hx => by simpa using List.all_eq_true.1 hsz _ (DataW.weights_mem_each (j := 0) rfl rfl x hx)
  have k1 := h1
  have hwt1 : ∀ x ∈ d1.weights Try.prog 3, x ≤ reachBytes := fun x hx => by simpa using List.all_eq_true.1 hsz _ (DataW.weights_mem_each (j := 1) rfl rfl x hx)
  have k2 := h2
  have hwt2 : ∀ x ∈ d2.weights Try.prog 27, x ≤ reachBytes := fun x hx => by simpa using List.all_eq_true.1 hsz _ (DataW.weights_mem_each (j := 2) rfl rfl x hx)
  have k3 := h3
  have hwt3 : ∀ x ∈ d3.weights Try.prog 3, x ≤ reachBytes := fun x hx => by simpa using List.all_eq_true.1 hsz _ (DataW.weights_mem_each (j := 3) rfl rfl x hx)
  obtain ⟨a0, rfl, rfl, rfl, w0⟩ := open_int Try.underlying3 (hval 0 3 v0 rfl rfl) h0
  have x0 : -9223372036854775808 ≤ a0 ∧ a0 ≤ 9223372036854775807 := by have e1 : IntKind.i64.min = -9223372036854775808 := rfl; have e2 : IntKind.i64.max = 9223372036854775807 := rfl; simp [Lit.wf, e1, e2] at w0; exact w0
  obtain ⟨a1, rfl, rfl, rfl, w1⟩ := open_int Try.underlying3 (hval 1 3 v1 rfl rfl) h1
  have x1 : -9223372036854775808 ≤ a1 ∧ a1 ≤ 9223372036854775807 := by have e1 : IntKind.i64.min = -9223372036854775808 := rfl; have e2 : IntKind.i64.max = 9223372036854775807 := rfl; simp [Lit.wf, e1, e2] at w1; exact w1
  obtain ⟨a3, rfl, rfl, rfl, w3⟩ := open_int Try.underlying3 (hval 3 3 v3 rfl rfl) h3
  have x3 : -9223372036854775808 ≤ a3 ∧ a3 ≤ 9223372036854775807 := by have e1 : IntKind.i64.min = -9223372036854775808 := rfl; have e2 : IntKind.i64.max = 9223372036854775807 := rfl; simp [Lit.wf, e1, e2] at w3; exact w3
  obtain ⟨s, rfl, hs⟩ := open_shape (hval 2 _ v2 rfl rfl) h2 hwt2
  clear hA0 hval0 hsz0 hsz
  refine (RowsAlike_calls a0 a1 a3 s W hs x3).mono fun e W' ⟨he, bel⟩ => ?_
  subst he
  exact ⟨_, rfl, _, _, _, [], _, [], hW', trodAll_mk1 (shut_bool Try.underlying4 _), (trodAll_cons_mk (trod_stays (by kernel_rfl) (of_decide_eq_true (by kernel_rfl)) k0 bel) (trodAll_cons_mk (trod_stays (by kernel_rfl) (of_decide_eq_true (by kernel_rfl)) k1 bel) (trodAll_cons_mk (trod_stays (by kernel_rfl) (of_decide_eq_true (by kernel_rfl)) k2 bel) (trodAll_cons_mk (trod_stays (by kernel_rfl) (of_decide_eq_true (by kernel_rfl)) k3 bel) trodAll_mk0)))), rfl, bel.frame _, fun h => by cases h⟩
theorem RowsAlike_holds : Rows.RowsAlikeSaid :=
  OpenClaim.holds_of_wide 5 Try.f5 rfl rfl rfl rfl rfl rfl rfl ⟨rfl, rfl, rfl, rfl, rfl⟩ rfl rfl rfl rfl rfl (by kernel_rfl) Try.func5 (by kernel_rfl)
    (of_decide_eq_true (by kernel_rfl)) (by unfold Func.isWrapper; rw [if_neg (of_decide_eq_false (by kernel_rfl))]; exact ⟨rfl, rfl⟩)
    (fun os started H enc _ => RowsAlike_lifted os started H enc)
end Go.Proofs.Ytkfhablonnjgeaa
