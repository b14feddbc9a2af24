/- Contracts of functions that CodeProps reaches, and words to say them. No condition. -/
import Derived.Test.YtnomlloaahoceaaDoorZ24
import Derived.Test.YtnomlloaahoceaaDoorZ18
/- Contracts of package ambitref8: what is written. No condition. -/
namespace Go.Proofs.YtnomlloaahoceaaDoor
open Go.RowKit
set_option linter.unusedVariables false
set_option linter.unusedSimpArgs false
set_option maxRecDepth 100000 in
theorem rPutUint_calls {B : Nat} {w0 : World} (A : Option Addr) (c : Nat) (l : List UInt8) (v : Int) (L : List It) (w : World) (hS0 : St B w0 w (.row A c 5 1 l.length (l.map uB) :: L)) (hl : l.length + 9 ≤ 137438953472) (hv : v ≤ 9223372036854775807) :
    Calls Tryd.prog 18 ⟨[.slice A l.length c, .int .i64 v]⟩ w fun en w' => ∃ A' c', en = .returned (.slice A' (l ++ encs [v]).length c') ∧ St B w0 w' (.row A' c' 5 1 (l ++ encs [v]).length ((l ++ encs [v]).map uB) :: L) := by
  have hul := uintV_le hv
  have he : encs [v] = (uintV v).1 := by simp [encs]
  rw [he]
  refine gc_enter (N := 15) Tryd.func18 rfl rfl rfl [(0, _), (1, _)] rfl ?_
  have hS := St.start w
  have hS := hS0
  refine gc_seq fun K1 hK1 => ?_
  refine gc_region ?_
  refine gl_op rfl rfl rfl (op_pure hT rfl) ?_
  refine gl_nil ?_
  refine hK1 _ _ ?_
  clear hK1; try clear K1
  refine gc_seq fun K2 hK2 => ?_
  refine gc_region ?_
  refine gl_op rfl rfl rfl (op_pure hT rfl) ?_
  refine gl_callf rfl rfl rfl rfl Tryd.func36 rfl rfl rfl (rUint_calls v hv _) ?_
  rintro _ w9 ⟨A9, c9, rfl, hr9, hb9⟩
  refine ⟨_, rfl, ?_⟩
  have hS := (hS.addRow hb9 hr9).moveIn 1
  refine gl_op rfl rfl rfl (op_pure hT rfl) ?_
  refine gl_op rfl rfl rfl (op_pure hT rfl) ?_
  refine gl_op rfl rfl rfl (op_pure hT rfl) ?_
  refine gl_op rfl rfl rfl (op_pure hT rfl) ?_
  refine gl_op rfl rfl rfl (op_pure hT rfl) ?_
  refine gl_nil ?_
  refine hK2 _ _ ?_
  clear hK2; try clear K2
  refine gc_seq fun K3 hK3 => ?_
  refine gc_region ?_
  refine gl_op rfl rfl rfl (op_pure hT rfl) ?_
  refine gl_op rfl rfl rfl (op_pure hT rfl) ?_
  refine gl_append 0 hT hS el5 (hS.rd (i := 1) rfl) (allOne_map (fun _ => rfl) _) rfl rfl rfl rfl rfl rfl rfl rfl (by first | omega | (simp; omega)) (by first | omega | (simp; omega)) fun A14 c14 w14 hS => ?_
  refine gl_op rfl rfl rfl (op_pure hT rfl) ?_
  refine gl_nil ?_
  refine hK3 _ _ ?_
  clear hK3; try clear K3
  refine gc_ret ?_
  try simp only [x_then_ret, x_block_ret]
  refine gk_ret1 rfl rfl ?_
  refine ⟨A14, c14, ?_, ?_⟩
  · rw [List.length_append]
  · rw [List.length_append, List.map_append]
    exact hS.erase 1
set_option maxRecDepth 100000 in
theorem rPutFloats_calls {B : Nat} {w0 : World} (A : Option Addr) (c : Nat) (l : List UInt8) (A2 : Option Addr) (c2 : Nat) (vs : List Nat) (L : List It) (w : World) (hS0 : St B w0 w (.row A c 5 1 l.length (l.map uB) :: L)) {ok : Nat → Prop} (hv : ∀ {w1 : World} {X : It}, St B w0 w1 (X :: L) → RdE w1 ok uV A2 vs) (hl : l.length + 8 * vs.length ≤ 137438953472) (hvs : ∀ v ∈ vs, v < 18446744073709551616) :
    Calls Tryd.prog 17 ⟨[.slice A l.length c, .slice A2 vs.length c2]⟩ w fun en w' => ∃ A' c', en = .returned (.slice A' (l ++ encf vs).length c') ∧ St B w0 w' (.row A' c' 5 1 (l ++ encf vs).length ((l ++ encf vs).map uB) :: L) := by
  refine gc_enter (N := 26) Tryd.func17 rfl rfl rfl [(0, _), (1, _)] rfl ?_
  have hS := St.start w
  have hS := hS0
  refine gc_seq fun K1 hK1 => ?_
  refine gc_region ?_
  refine gl_op rfl rfl rfl (op_pure hT rfl) ?_
  refine gl_nil ?_
  refine hK1 _ _ ?_
  clear hK1; try clear K1
  refine gc_seq fun K2 hK2 => ?_
  refine gc_seq fun K3 hK3 => ?_
  refine gc_region ?_
  refine gl_op rfl rfl rfl (op_pure hT rfl) ?_
  refine gl_nil ?_
  refine hK3 _ _ ?_
  clear hK3; try clear K3
  refine gc_block ?_
  refine gc_loop (fun kk a' w' => ∃ (i : Nat) (m : List UInt8) (A' : Option Addr) (c' : Nat), Fr 26 a' [(0, .slice A' m.length c'), (1, .slice A2 vs.length c2), (5, .int .i64 (i : Nat))] ∧ i ≤ vs.length ∧ kk = vs.length + 1 - i ∧ m = l ++ encf (vs.take i) ∧
    St B w0 w' (.row A' c' 5 1 m.length (m.map uB) :: L)) (vs.length + 1) ?_ ?_ ?_
  · intro a' ha; exact ⟨0, l, A, c, ha.sub ⟨rfl, rfl, rfl, trivial⟩, by omega, by omega, by simp [encf], hS⟩
  · rintro a' w' ⟨i, _, _, _, _, h1, h2, _⟩; omega
  clear hS
  rintro kk a' w1 ⟨i, m, A', c', hF, hi, hk, hm, hS⟩
  refine gc_of hF ?_
  clear hF
  refine gc_seq fun K4 hK4 => ?_
  refine gc_seq fun K5 hK5 => ?_
  refine gc_region ?_
  refine gl_op rfl rfl rfl (op_pure hT rfl) ?_
  refine gl_op rfl rfl rfl (op_pure hT rfl) ?_
  refine gl_op rfl rfl rfl (op_pure hT rfl) ?_
  refine gl_op rfl rfl rfl (op_pure hT rfl) ?_
  refine gl_nil ?_
  refine hK5 _ _ ?_
  clear hK5; try clear K5
  refine gc_cond rfl rfl (fun c11 => ?_) (fun c11 => ?_)
  · try simp only [decide_eq_true_eq, decide_eq_false_iff_not, Bool.not_eq_true', Bool.not_eq_false', Int.not_lt, Int.not_le, Nat.not_lt, Nat.not_le, Bool.true_eq, Bool.false_eq, reduceCtorEq] at c11
    refine gc_skip ?_
    refine hK4 _ _ ?_
    clear hK4; try clear K4
    refine gc_seq fun K6 hK6 => ?_
    refine gc_block ?_
    refine gc_seq fun K7 hK7 => ?_
    refine gc_region ?_
    refine gl_op rfl rfl rfl (op_pure hT rfl) ?_
    refine gl_op rfl rfl rfl (op_pure hT rfl) ?_
    have hil : i < vs.length := by omega
    obtain ⟨v, hv1⟩ : ∃ v, vs[i]? = some v := ⟨_, List.getElem?_eq_getElem hil⟩
    have htk : vs.take (i + 1) = vs.take i ++ [v] := by rw [List.take_add_one, hv1]; rfl
    have hvm := hvs v (List.mem_of_getElem? hv1)
    obtain ⟨ad, hA, hc⟩ := (hv hS).at 0 (i := (i : Int)) (by omega) (by omega)
    have hug : vs.getD ((i : Int)).toNat 0 = v := by rw [Int.toNat_natCast, List.getD_eq_getElem?_getD, hv1]; rfl
    rw [hug] at hc
    have hml : m.length ≤ l.length + 8 * i := by
      have := encf_le (vs.take i)
      rw [hm, List.length_append]
      rw [List.length_take] at this
      omega
    have hul := floatV_le v
    refine gl_op rfl rfl rfl (op_indexAddr hT rfl rfl el77.cellsOf.1 el77.cellsOf.2 rfl rfl (by omega) (by omega) hA) ?_
    refine gl_op rfl rfl rfl (op_load hT rfl rfl rfl rfl hc) ?_
    refine gl_callf rfl rfl rfl rfl Tryd.func35 rfl rfl rfl (rFloat_calls v hvm _) ?_
    rintro _ w19 ⟨A19, c19, rfl, hr19, hb19⟩
    refine ⟨_, rfl, ?_⟩
    have hS := (hS.addRow hb19 hr19).moveIn 1
    refine gl_op rfl rfl rfl (op_pure hT rfl) ?_
    refine gl_op rfl rfl rfl (op_pure hT rfl) ?_
    refine gl_op rfl rfl rfl (op_pure hT rfl) ?_
    refine gl_op rfl rfl rfl (op_pure hT rfl) ?_
    refine gl_op rfl rfl rfl (op_pure hT rfl) ?_
    refine gl_nil ?_
    refine hK7 _ _ ?_
    clear hK7; try clear K7
    refine gc_region ?_
    refine gl_op rfl rfl rfl (op_pure hT rfl) ?_
    refine gl_op rfl rfl rfl (op_pure hT rfl) ?_
    refine gl_append 0 hT hS el5 (hS.rd (i := 1) rfl) (allOne_map (fun _ => rfl) _) rfl rfl rfl rfl rfl rfl rfl rfl (by first | omega | (simp; omega)) (by first | omega | (simp; omega)) fun A24 c24 w24 hS => ?_
    refine gl_op rfl rfl rfl (op_pure hT rfl) ?_
    refine gl_nil ?_
    refine hK6 _ _ ?_
    clear hK6; try clear K6
    refine gc_region ?_
    refine gl_op rfl rfl rfl (op_pure hT rfl) ?_
    first | refine gl_fit hT rfl rfl rfl rfl (by omega) ?_ | refine gl_op rfl rfl rfl (op_pure hT rfl) ?_
    refine gl_op rfl rfl rfl (op_pure hT rfl) ?_
    refine gl_nil ?_
    intro a' ha
    refine ⟨i + 1, m ++ (floatV v).1, A24, c24, ha.sub ⟨?_, rfl, rfl, trivial⟩, by omega, by omega, ?_, ?_⟩
    · rw [List.length_append]; rfl
    · rw [hm, htk, encf_snoc, List.append_assoc]
    · rw [List.length_append, List.map_append]
      exact hS.erase 1
  · try simp only [decide_eq_true_eq, decide_eq_false_iff_not, Bool.not_eq_true', Bool.not_eq_false', Int.not_lt, Int.not_le, Nat.not_lt, Nat.not_le, Bool.true_eq, Bool.false_eq, reduceCtorEq] at c11
    refine gc_exit ?_
    refine hK2 _ _ ?_
    clear hK2; try clear K2
    refine gc_seq fun K8 hK8 => ?_
    refine gc_region ?_
    refine gl_op rfl rfl rfl (op_pure hT rfl) ?_
    refine gl_op rfl rfl rfl (op_pure hT rfl) ?_
    refine gl_nil ?_
    refine hK8 _ _ ?_
    clear hK8; try clear K8
    refine gc_ret ?_
    try simp only [x_then_ret, x_block_ret]
    refine gk_ret1 rfl rfl ?_
    have hie : i = vs.length := by omega
    subst hie
    rw [List.take_length] at hm
    subst hm
    exact ⟨A', c', rfl, hS⟩
end Go.Proofs.YtnomlloaahoceaaDoor

