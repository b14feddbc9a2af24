/- Our own words: made memory as one block, orders of items, a comparison of bits. Nothing here speaks of a statement; no condition. -/
import Derived.Test.YtkfhablonnjgeaaDoorLibX
import Derived.Test.YtkfhablonnjgeaaDoorLibK
namespace Go.Proofs.YtkfhablonnjgeaaDoor
open Go.RowKit
set_option linter.unusedVariables false
set_option linter.unusedSimpArgs false
section
variable {P : Program} {N : Nat} {e : Env} {Q : Exit → Act → World → Prop} {w w0 : World} {T : TyTab} {B : Nat} {L : List It}
theorem gl_makeB {ops : Array Oper} {o : Oper} {rest : List Oper} {d : Nat} {t el : TypeId} {x y : Operand} {z : Value} {sz bytes : Nat} {k1 k2 : IntKind} {n : Nat}
    (hT : TabOk P T) (hS : St B w0 w L) (hel : Elem P el z sz bytes) (hd : o.dst = some d) (hg : o.guard = none) (hN : Nat.ble (d + 1) N = true) (ho : o.op = .makeSlice t x y)
    (ht : tlook T t = some (.slice el)) (hx : evO e x = some (.int k1 (n : Int))) (hy : evO e y = some (.int k2 (n : Int))) (hb : n * bytes ≤ 281474976710656) (hmax : n ≤ 9223372036854775807)
    (h : ∀ g w', St B w0 w' (L ++ [.blk g el (madeCells z.cells (n * sz)).toList]) → GL P N ops ((d, .slice (some ⟨g, 0, none⟩) n n) :: e) rest Q w') : GL P N ops e (o :: rest) Q w := by
  obtain ⟨i, hi, hz, hsz, hb'⟩ := hel.ex
  have hbi : (i.bytes : Int) * (n : Int) ≤ 281474976710656 := by
    have h : ((i.bytes * n : Nat) : Int) ≤ 281474976710656 := by rw [Nat.mul_comm, hb']; omega
    rwa [Int.natCast_mul] at h
  have hrun := run_make (P := P) w t el i z (hT.at ht) hi hz k1 k2 n n (by omega) (Int.le_refl _) hbi (by omega)
  simp only [Int.toNat_natCast] at hrun
  refine gl_step hd (Nat.le_of_ble_eq_true hN) hg (fun a ha => ?_) (h w.heap.size (w.alloc (.cells (madeCells z.cells (n * i.size)) el)) (hS.add rfl rfl rfl (by simp) (fun b hb => Below.heap_alloc w _ b hb) ?_ ?_))
  · simp only [execOp, ho, ha.eval hx, ha.eval hy, Sem.run_bind, hrun, Result.andThen_ok, Sem.run_pure]
  · rw [hsz]
    exact ⟨hS.size, heap_alloc_new w _⟩
  · rintro b rfl; exact Nat.le_refl _
theorem St.rdB (hS : St B w0 w L) {i g : Nat} {t : TypeId} {cs : List Value} (hi : L[i]? = some (.blk g t cs)) {n sz : Nat} (hl : cs.length = n * sz) : Rd w All (some ⟨g, 0, none⟩) n sz cs := by
  refine ⟨hl, fun _ => ⟨_, rfl, trivial, fun j u hu => ?_⟩⟩
  have hadd : (⟨g, 0, none⟩ : Addr).add j = ⟨g, j, none⟩ := by unfold Addr.add; split <;> simp_all
  rw [hadd, hS.cell hi]
  exact hu
theorem St.toRow (hS : St B w0 w L) {i g n : Nat} {t : TypeId} {cs : List Value} (hi : L[i]? = some (.blk g t cs)) (hl : cs.length = n) (hm : n ≤ 9223372036854775807) : St B w0 w (L.set i (.row (some ⟨g, 0, none⟩) n t 1 n cs)) := by
  have hb := hS.at hi
  refine hS.update hi rfl rfl rfl (Nat.le_refl _) (fun _ _ _ => rfl) (?_ : Owns w B (some ⟨g, 0, none⟩) n t 1 n cs) (fun b hb => ?_)
  · exact ⟨by rw [hl, Nat.mul_one], .inr ⟨g, n, ⟨cs⟩, rfl, hb.1, hb.2, Nat.le_refl _, Nat.le_refl _, by simp only [maxLen]; omega, by simp [hl], by rw [Nat.mul_one]; exact List.take_of_length_le (by simp [hl])⟩⟩
  · obtain ⟨a, ha, rfl⟩ := hb
    injection ha with ha
    subst ha
    exact .inl rfl
theorem made_one (v : Value) (n : Nat) : (madeCells #[v] (n * 1)).toList = List.replicate n v := by
  rw [Nat.mul_one]
  apply List.ext_getElem
  · simp [madeCells]
  · intro j h1 h2; simp [madeCells, Nat.mod_one]
theorem made_flat (z : Array Value) (h : 0 < z.size) (n : Nat) : (madeCells z (n * z.size)).toList = (List.replicate n z.toList).flatten := by
  induction n with
  | zero => simp [madeCells]
  | succ n ih =>
    rw [List.replicate_succ', List.flatten_append, ← ih]
    apply List.ext_getElem?
    intro j
    have e1 : ∀ m, (madeCells z m).toList = (List.range m).map (fun i => z[i % z.size]!) := by intro m; simp [madeCells]
    rw [e1, e1, List.getElem?_map, List.getElem?_append, List.length_map, List.length_range]
    rw [Nat.add_mul, Nat.one_mul]
    by_cases h1 : j < n * z.size
    · rw [if_pos h1, List.getElem?_map, List.getElem?_range (by omega), List.getElem?_range h1]
    · rw [if_neg h1]
      simp only [List.flatten_cons, List.flatten_nil, List.append_nil, Array.getElem?_toList]
      by_cases h2 : j < n * z.size + z.size
      · rw [List.getElem?_range h2, Option.map_some]
        have e2 : j % z.size = j - n * z.size := by
          have : j = (j - n * z.size) + n * z.size := by omega
          rw [this, Nat.add_mul_mod_self_right, Nat.mod_eq_of_lt (by omega)]
          omega
        rw [e2, Array.getElem?_eq_getElem (by omega)]
        simp [show j - n * z.size < z.size by omega]
      · rw [List.getElem?_eq_none (by simp; omega), Array.getElem?_eq_none (by omega)]
        rfl
theorem flat_set {α : Type} {enc : α → List Value} {sz : Nat} (hz : ∀ x, (enc x).length = sz) : ∀ (l : List α) (i j : Nat) (x y : α) (v : Value), l[i]? = some x → j < sz → enc y = (enc x).set j v → ((l.map enc).flatten).set (i * sz + j) v = ((l.set i y).map enc).flatten
  | [], i, j, x, y, v, h, _, _ => by simp at h
  | a :: l, 0, j, x, y, v, h, hj, he => by
    simp at h; subst h
    rw [List.map_cons, List.flatten_cons, Nat.zero_mul, Nat.zero_add, List.set_append_left _ _ (by rw [hz]; exact hj), List.set_cons_zero, List.map_cons, List.flatten_cons, he]
  | a :: l, i + 1, j, x, y, v, h, hj, he => by
    rw [List.map_cons, List.flatten_cons, List.set_append_right _ _ (by rw [hz, Nat.add_mul]; omega), hz, show (i + 1) * sz + j - sz = i * sz + j by rw [Nat.add_mul]; omega, List.set_cons_succ, List.map_cons, List.flatten_cons]
    rw [flat_set hz l i j x y v (by simpa using h) hj he]
theorem rep_set {α : Type} (a b : α) (n i : Nat) (h : i < n) : (List.replicate i a ++ List.replicate (n - i) b).set i a = List.replicate (i + 1) a ++ List.replicate (n - (i + 1)) b := by
  rw [show n - i = (n - (i + 1)) + 1 by omega, List.replicate_succ, List.set_append_right _ _ (by simp)]
  simp only [List.length_replicate, Nat.sub_self, List.set_cons_zero]
  rw [List.replicate_succ', List.append_assoc]; rfl
theorem rep_at {α : Type} (a b : α) (n i : Nat) (h : i < n) : (List.replicate i a ++ List.replicate (n - i) b)[i]? = some b := by
  rw [List.getElem?_append_right (by simp), List.length_replicate, Nat.sub_self, List.getElem?_replicate, if_pos (by omega)]
theorem mofInt_i64 (n : Int) : (BitVec.ofInt 64 n).toNat = (n % 18446744073709551616).toNat := by rw [BitVec.toNat_ofInt]; rfl
theorem i64_and255 (n : Int) : Go.bits .and .i64 n 255 = n % 256 := by
  show Go.IntKind.i64.wrap ((BitVec.ofInt 64 n &&& BitVec.ofInt 64 255).toNat : Int) = _
  have h2 : (BitVec.ofInt 64 255).toNat = 2 ^ 8 - 1 := by decide
  rw [BitVec.toNat_and, mofInt_i64, h2, Nat.and_two_pow_sub_one_eq_mod, IntKind.wrap_i64]
  omega
theorem St.permute {L' : List It} (h : St B w0 w L) (hp : L.Perm L') : St B w0 w L' :=
  ⟨h.1, fun it hi => h.2.1 it (hp.mem_iff.2 hi), hp.pairwise h.2.2 fun {x y} hxy b hb hb2 => hxy b hb2 hb⟩
theorem p_bac {α : Type} (a b c : α) : List.Perm [b, a, c] [a, b, c] := .swap ..
theorem p_acb {α : Type} (a b c : α) : List.Perm [a, c, b] [a, b, c] := .cons _ (.swap ..)
theorem p_bca {α : Type} (a b c : α) : List.Perm [b, c, a] [a, b, c] := .trans (.cons _ (.swap ..)) (.swap ..)
theorem p_cab {α : Type} (a b c : α) : List.Perm [c, a, b] [a, b, c] := .trans (.swap ..) (.cons _ (.swap ..))
theorem p_cba {α : Type} (a b c : α) : List.Perm [c, b, a] [a, b, c] := .trans (.cons _ (.swap ..)) (p_cab ..)
end
end Go.Proofs.YtkfhablonnjgeaaDoor
