/- Contracts of functions that make bytes. No condition. -/
import Derived.Test.YtpeomdobcobdiaaDoorW1
import Derived.Test.YtpeomdobcobdiaaDoorSpec
namespace Go.Proofs.YtpeomdobcobdiaaDoor
open Go.RowKit
set_option linter.unusedVariables false
set_option linter.unusedSimpArgs false
def marks : List UInt8 := [201, 202, 203] ++ List.replicate 70 206
theorem Laid_calls (A : Option Addr) (c : Nat) (l : List UInt8) (w : World) {ok : Nat → Prop} (h1 : RdE w ok uB A l) (hc : l.length ≤ c) :
    Calls Tryd.prog 19 ⟨[.slice A l.length c]⟩ w fun e w' => ∃ A' c', e = .returned (.slice A' (l.take 1048676).length c') ∧
      Owns w' w.heap.size A' c' 5 1 ((l.take 1048676).length + 73) ((l.take 1048676 ++ marks).map uB) ∧ Below w.heap.size w w' := by
  have hlen : (l.take 1048676).length ≤ 1048676 ∧ (l.take 1048676).length ≤ l.length := by simp; omega
  refine gc_enter (N := 27) Tryd.func19 rfl rfl rfl [(0, _)] rfl ?_
  have hS := St.start w
  refine gc_seq fun K1 hK1 => ?_
  refine gc_region ?_
  refine gl_op rfl rfl rfl (op_pure hT rfl) ?_
  refine gl_nil ?_
  refine hK1 _ _ ?_
  clear hK1; try clear K1
  refine gc_cut (fun a w' => w = w' ∧ Fr 27 a [(0, .slice A (l.take 1048676).length c)]) ?_ ?_
  · skip
    refine gc_seq fun K2 hK2 => ?_
    refine gc_region ?_
    refine gl_op rfl rfl rfl (op_pure hT rfl) ?_
    refine gl_op rfl rfl rfl (op_pure hT rfl) ?_
    refine gl_op rfl rfl rfl (op_pure hT rfl) ?_
    refine gl_nil ?_
    refine hK2 _ _ ?_
    clear hK2; try clear K2
    refine gc_cond rfl rfl (fun c7 => ?_) (fun c7 => ?_)
    · try simp only [decide_eq_true_eq, decide_eq_false_iff_not, Bool.not_eq_true', Bool.not_eq_false', Int.not_lt, Int.not_le, Nat.not_lt, Nat.not_le, Bool.true_eq, Bool.false_eq, reduceCtorEq] at c7
      refine gc_region ?_
      refine gl_op rfl rfl rfl (op_pure hT rfl) ?_
      refine gl_op rfl rfl rfl (op_slice_h hT el5 rfl rfl rfl rfl (by first | omega | (simp; omega)) (by first | omega | (simp; omega))) ?_
      refine gl_op rfl rfl rfl (op_pure hT rfl) ?_
      refine gl_nil ?_
      intro a ha
      refine ⟨rfl, ha.sub ⟨?_, trivial⟩⟩
      first
        | (show some (Value.slice A (1048676 : Int).toNat c) = _; rw [List.length_take, Nat.min_eq_left (by omega)]; rfl)
        | (show some (Value.slice A l.length c) = _; rw [List.length_take, Nat.min_eq_right (by omega)])
    · try simp only [decide_eq_true_eq, decide_eq_false_iff_not, Bool.not_eq_true', Bool.not_eq_false', Int.not_lt, Int.not_le, Nat.not_lt, Nat.not_le, Bool.true_eq, Bool.false_eq, reduceCtorEq] at c7
      refine gc_skip ?_
      intro a ha
      refine ⟨rfl, ha.sub ⟨?_, trivial⟩⟩
      first
        | (show some (Value.slice A (1048676 : Int).toNat c) = _; rw [List.length_take, Nat.min_eq_left (by omega)]; rfl)
        | (show some (Value.slice A l.length c) = _; rw [List.length_take, Nat.min_eq_right (by omega)])
  rintro a _ ⟨rfl, hF⟩
  refine gc_of hF ?_
  have h1 := h1.take 1048676
  generalize l.take 1048676 = l at h1 hlen ⊢
  refine gc_seq fun K3 hK3 => ?_
  refine gc_region ?_
  refine gl_op rfl rfl rfl (op_pure hT rfl) ?_
  refine gl_nil ?_
  refine hK3 _ _ ?_
  clear hK3; try clear K3
  refine gc_seq fun K4 hK4 => ?_
  refine gc_region ?_
  refine gl_op rfl rfl rfl (op_pure hT rfl) ?_
  refine gl_op rfl rfl rfl (op_pure hT rfl) ?_
  refine gl_append0 hT hS el5 (h1.old hS) (allOne_uB _) rfl rfl rfl rfl rfl rfl rfl (by first | omega | (simp; omega)) (by first | omega | (simp; omega)) fun A12 c12 w12 hS => ?_
  refine gl_op rfl rfl rfl (op_pure hT rfl) ?_
  refine gl_nil ?_
  refine hK4 _ _ ?_
  clear hK4; try clear K4
  refine gc_seq fun K5 hK5 => ?_
  refine gc_region ?_
  refine gl_op rfl rfl rfl (op_pure hT rfl) ?_
  refine gl_lit hT hS el5 rfl rfl rfl rfl rfl rfl rfl rfl rfl fun g14 w14 hS => ?_
  refine gl_append 0 hT hS el5 (hS.rd (i := 1) rfl) (rfl) rfl rfl rfl rfl rfl rfl rfl rfl (by first | omega | (simp; omega)) (by first | omega | (simp; omega)) fun A15 c15 w15 hS => ?_
  have hS := hS.erase 1
  refine gl_op rfl rfl rfl (op_pure hT rfl) ?_
  refine gl_nil ?_
  refine hK5 _ _ ?_
  clear hK5; try clear K5
  refine gc_seq fun K6 hK6 => ?_
  refine gc_seq fun K7 hK7 => ?_
  refine gc_region ?_
  refine gl_op rfl rfl rfl (op_pure hT rfl) ?_
  refine gl_nil ?_
  refine hK7 _ _ ?_
  clear hK7; try clear K7
  refine gc_block ?_
  refine gc_loop (fun k a w' => ∃ (i : Nat) (A' : Option Addr) (c' : Nat), Fr 27 a [(0, .slice A l.length c), (3, .slice A' (l.length + 3 + i) c'), (4, .int .i64 i)] ∧ i ≤ 70 ∧ k = 71 - i ∧
    St w.heap.size w w' [.row A' c' 5 1 (l.length + 3 + i) ((l ++ [201, 202, 203] ++ List.replicate i 206).map uB)]) 71 ?_ ?_ ?_
  · intro a ha; exact ⟨0, _, _, ha.sub ⟨rfl, rfl, rfl, trivial⟩, by omega, rfl, by simpa [uB] using hS⟩
  · rintro a w ⟨i, _, _, _, h1, h2, _⟩; omega
  rintro k a w1 ⟨i, A', c', hF, hi, hk, hS⟩
  have hcap := hS.cap (i := 0) rfl
  refine gc_of hF ?_
  refine gc_seq fun K8 hK8 => ?_
  refine gc_seq fun K9 hK9 => ?_
  refine gc_region ?_
  refine gl_op rfl rfl rfl (op_pure hT rfl) ?_
  refine gl_op rfl rfl rfl (op_pure hT rfl) ?_
  refine gl_nil ?_
  refine hK9 _ _ ?_
  clear hK9; try clear K9
  refine gc_cond rfl rfl (fun c17 => ?_) (fun c17 => ?_)
  · try simp only [decide_eq_true_eq, decide_eq_false_iff_not, Bool.not_eq_true', Bool.not_eq_false', Int.not_lt, Int.not_le, Nat.not_lt, Nat.not_le, Bool.true_eq, Bool.false_eq, reduceCtorEq] at c17
    refine gc_skip ?_
    refine hK8 _ _ ?_
    clear hK8; try clear K8
    refine gc_seq fun K10 hK10 => ?_
    refine gc_block ?_
    refine gc_region ?_
    refine gl_op rfl rfl rfl (op_pure hT rfl) ?_
    refine gl_lit hT hS el5 rfl rfl rfl rfl rfl rfl rfl rfl rfl fun g21 w21 hS => ?_
    refine gl_append 0 hT hS el5 (hS.rd (i := 1) rfl) (rfl) rfl rfl rfl rfl rfl rfl rfl rfl (by first | omega | (simp; omega)) (by first | omega | (simp; omega)) fun A22 c22 w22 hS => ?_
    have hS := hS.erase 1
    refine gl_op rfl rfl rfl (op_pure hT rfl) ?_
    refine gl_nil ?_
    refine hK10 _ _ ?_
    clear hK10; try clear K10
    refine gc_region ?_
    refine gl_op rfl rfl rfl (op_pure hT rfl) ?_
    first | refine gl_fit hT rfl rfl rfl rfl (by omega) ?_ | refine gl_op rfl rfl rfl (op_pure hT rfl) ?_
    refine gl_op rfl rfl rfl (op_pure hT rfl) ?_
    refine gl_nil ?_
    intro a ha
    refine ⟨i + 1, _, _, ha.sub ⟨rfl, rfl, rfl, trivial⟩, by omega, by omega, ?_⟩
    have := hS
    simpa [uB, List.replicate_succ', Nat.add_assoc] using this
  · try simp only [decide_eq_true_eq, decide_eq_false_iff_not, Bool.not_eq_true', Bool.not_eq_false', Int.not_lt, Int.not_le, Nat.not_lt, Nat.not_le, Bool.true_eq, Bool.false_eq, reduceCtorEq] at c17
    refine gc_exit ?_
    refine hK6 _ _ ?_
    clear hK6; try clear K6
    refine gc_seq fun K11 hK11 => ?_
    refine gc_region ?_
    refine gl_op rfl rfl rfl (op_pure hT rfl) ?_
    refine gl_op rfl rfl rfl (op_pure hT rfl) ?_
    refine gl_op rfl rfl rfl (op_pure hT rfl) ?_
    refine gl_op rfl rfl rfl (op_slice_h hT el5 rfl rfl rfl rfl (by first | omega | (simp; omega)) (by first | omega | (simp; omega))) ?_
    refine gl_op rfl rfl rfl (op_pure hT rfl) ?_
    refine gl_nil ?_
    refine hK11 _ _ ?_
    clear hK11; try clear K11
    refine gc_ret ?_
    try simp only [x_then_ret, x_block_ret]
    refine gk_ret1 rfl rfl ?_
    have : i = 70 := by omega
    subst this
    obtain ⟨h2, h3⟩ := hS.out (i := 0) rfl
    exact ⟨_, _, rfl, by simpa [marks, Nat.add_assoc] using h2, h3⟩
end Go.Proofs.YtpeomdobcobdiaaDoor
