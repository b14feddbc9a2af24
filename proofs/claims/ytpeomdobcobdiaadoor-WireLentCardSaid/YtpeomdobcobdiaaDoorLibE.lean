/- Our own words: cuts of slices and strings, literals, variables in memory, stores, conversions. Nothing here speaks of a statement; no condition. -/
import Derived.Test.YtpeomdobcobdiaaDoorLibD
import Derived.Lib.AppendStr
namespace Go.Proofs.YtpeomdobcobdiaaDoor
open Go.RowKit
set_option linter.unusedVariables false
set_option linter.unusedSimpArgs false
section
variable {P : Program} {N : Nat} {e : Env} {Q : Exit → Act → World → Prop} {w w0 : World} {T : TyTab} {B : Nat} {L : List It}

/-! ### cuts -/
theorem elem_of {t el : TypeId} (h : P.underlying t = some (.slice el)) : P.underlying t = some (.slice (P.elem t)) ∧ P.elem t = el := by
  have : P.elem t = el := by simp [Program.elem, h]
  rw [this]; exact ⟨h, rfl⟩
theorem Elem.run_size {el : TypeId} {z : Value} {sz bytes : Nat} (h : Elem P el z sz bytes) (w : World) : (sizeOf el).run P w = .ok sz w := by
  obtain ⟨i, hi, _, hs, _⟩ := h.ex
  simp [sizeOf, typeInfo, hi, hs]
theorem map_add_zero (A : Option Addr) (sz : Nat) : A.map (·.add (0 * sz)) = A := by cases A <;> simp [Addr.add]
theorem op_slice_h {o : Oper} {t el : TypeId} {x y : Operand} {z : Value} {sz bytes : Nat} {A : Option Addr} {n c : Nat} {k : IntKind} {h : Int} (hT : TabOk P T) (hel : Elem P el z sz bytes)
    (ho : o.op = .slice t x none (some y) none) (ht : tlook T t = some (.slice el)) (hx : evO e x = some (.slice A n c)) (hy : evO e y = some (.int k h)) (h0 : 0 ≤ h) (h2 : h ≤ c) : OpR P N e w o (.slice A h.toNat c) := by
  intro q a ha
  have hu := elem_of (hT.at ht)
  simp only [execOp, ho, ha.eval hx, Option.map_some, Option.map_none, ha.eval hy, Sem.run_bind, run_sliceAt_slice _ t _ _ _ _ hu.1, run_slice_h _ t _ _ _ hu.1 k h h0 h2, hu.2, hel.run_size, Result.andThen_ok, sliced]
  simp only [map_add_zero, ite_self, Nat.sub_zero]
  rfl
theorem op_slice_hm {o : Oper} {t el : TypeId} {x y y2 : Operand} {z : Value} {sz bytes : Nat} {A : Option Addr} {n c : Nat} {k k2 : IntKind} {h m : Int} (hT : TabOk P T) (hel : Elem P el z sz bytes)
    (ho : o.op = .slice t x none (some y) (some y2)) (ht : tlook T t = some (.slice el)) (hx : evO e x = some (.slice A n c)) (hy : evO e y = some (.int k h)) (hy2 : evO e y2 = some (.int k2 m)) (h0 : 0 ≤ h) (h2 : h ≤ m) (h3 : m ≤ c) : OpR P N e w o (.slice A h.toNat m.toNat) := by
  intro q a ha
  have hu := elem_of (hT.at ht)
  simp only [execOp, ho, ha.eval hx, Option.map_some, Option.map_none, ha.eval hy, ha.eval hy2, Sem.run_bind, run_sliceAt_slice _ t _ _ _ _ hu.1, run_slice_hm _ t _ _ _ hu.1 k k2 h m h0 h2 h3, hu.2, hel.run_size, Result.andThen_ok, sliced]
  simp only [map_add_zero, ite_self, Nat.sub_zero]
  rfl
theorem op_slice_l {o : Oper} {t el : TypeId} {x y : Operand} {z : Value} {sz bytes : Nat} {A : Option Addr} {n c : Nat} {k : IntKind} {l : Int} (hT : TabOk P T) (hel : Elem P el z sz bytes)
    (ho : o.op = .slice t x (some y) none none) (ht : tlook T t = some (.slice el)) (hx : evO e x = some (.slice A n c)) (hy : evO e y = some (.int k l)) (h0 : 0 ≤ l) (h2 : l ≤ n) :
    OpR P N e w o (.slice (if c = l.toNat then A else A.map (·.add (l.toNat * sz))) (n - l.toNat) (c - l.toNat)) := by
  intro q a ha
  have hu := elem_of (hT.at ht)
  simp only [execOp, ho, ha.eval hx, Option.map_some, Option.map_none, ha.eval hy, Sem.run_bind, run_sliceAt_slice _ t _ _ _ _ hu.1, run_slice_l _ t _ _ _ hu.1 k l h0 h2, hu.2, hel.run_size, Result.andThen_ok, sliced]
  rfl
theorem op_slice_lh {o : Oper} {t el : TypeId} {x y y2 : Operand} {z : Value} {sz bytes : Nat} {A : Option Addr} {n c : Nat} {k k2 : IntKind} {l h : Int} (hT : TabOk P T) (hel : Elem P el z sz bytes)
    (ho : o.op = .slice t x (some y) (some y2) none) (ht : tlook T t = some (.slice el)) (hx : evO e x = some (.slice A n c)) (hy : evO e y = some (.int k l)) (hy2 : evO e y2 = some (.int k2 h)) (h0 : 0 ≤ l) (h1 : l ≤ h) (h2 : h ≤ c) :
    OpR P N e w o (.slice (if c = l.toNat then A else A.map (·.add (l.toNat * sz))) (h.toNat - l.toNat) (c - l.toNat)) := by
  intro q a ha
  have hu := elem_of (hT.at ht)
  simp only [execOp, ho, ha.eval hx, Option.map_some, Option.map_none, ha.eval hy, ha.eval hy2, Sem.run_bind, run_sliceAt_slice _ t _ _ _ _ hu.1, run_slice_lh _ t _ _ _ hu.1 k k2 l h h0 h1 h2, hu.2, hel.run_size, Result.andThen_ok, sliced]
  rfl
theorem op_str_h {o : Oper} {t : TypeId} {x y : Operand} {s : ByteArray} {k : IntKind} {h : Int} (hT : TabOk P T)
    (ho : o.op = .slice t x none (some y) none) (ht : tlook T t = some .string) (hx : evO e x = some (.string s)) (hy : evO e y = some (.int k h)) (h0 : 0 ≤ h) (h2 : h ≤ s.size) : OpR P N e w o (.string (s.extract 0 h.toNat)) := by
  intro q a ha
  simp only [execOp, ho, ha.eval hx, Option.map_some, Option.map_none, ha.eval hy, Sem.run_bind, run_sliceAt_string _ t _ _ _ _ (hT.at ht), run_slice_string_h _ t _ (hT.at ht) k h h0 h2, Result.andThen_ok]
  rfl
theorem op_str_l {o : Oper} {t : TypeId} {x y : Operand} {s : ByteArray} {k : IntKind} {l : Int} (hT : TabOk P T)
    (ho : o.op = .slice t x (some y) none none) (ht : tlook T t = some .string) (hx : evO e x = some (.string s)) (hy : evO e y = some (.int k l)) (h0 : 0 ≤ l) (h2 : l ≤ s.size) : OpR P N e w o (.string (s.extract l.toNat s.size)) := by
  intro q a ha
  simp only [execOp, ho, ha.eval hx, Option.map_some, Option.map_none, ha.eval hy, Sem.run_bind, run_sliceAt_string _ t _ _ _ _ (hT.at ht), run_slice_string_l _ t _ (hT.at ht) k l h0 h2, Result.andThen_ok]
  rfl
theorem op_str_lh {o : Oper} {t : TypeId} {x y y2 : Operand} {s : ByteArray} {k k2 : IntKind} {l h : Int} (hT : TabOk P T)
    (ho : o.op = .slice t x (some y) (some y2) none) (ht : tlook T t = some .string) (hx : evO e x = some (.string s)) (hy : evO e y = some (.int k l)) (hy2 : evO e y2 = some (.int k2 h)) (h0 : 0 ≤ l) (h1 : l ≤ h) (h2 : h ≤ s.size) : OpR P N e w o (.string (s.extract l.toNat h.toNat)) := by
  intro q a ha
  have eh : (h.toNat : Int) = h := Int.toNat_of_nonneg (by omega)
  have h00 : 0 ≤ h := by omega
  simp only [execOp, ho, ha.eval hx, Option.map_some, Option.map_none, ha.eval hy, ha.eval hy2, Sem.run_bind, run_sliceAt_string _ t _ _ _ _ (hT.at ht), Result.andThen_ok]
  simp [Instr.slice, run_underlying (hT.at ht), Instr.sliceBounds, run_sliceBound, eh, h0, h00, h1, h2]

/-! ### literals -/
def evParts (e : Env) : Nat → List (Nat × Operand) → Option (List Value)
  | _, [] => some []
  | k, (i, x) :: r => bif Nat.beq i k then (match evO e x, evParts e (k + 1) r with
    | some v, some l => some (v :: l)
    | _, _ => none) else none
theorem cells_of_one {v : Value} (h : oneCells v = true) : v.cells = #[v] := by cases v <;> first | rfl | cases h
theorem fill_ones {a : Act} (ha : Fr N a e) : ∀ (ps : List (Nat × Operand)) (k : Nat) (vs : List Value) (pre post : List Value), evParts e k ps = some vs → pre.length = k → post.length = vs.length → (∀ v ∈ vs, oneCells v = true) →
    Instr.fill (fun i => some (i * 1, 1)) ⟨pre ++ post⟩ (ps.map fun (i, x) => (i, a.eval x)) = some ⟨pre ++ vs⟩
  | [], k, vs, pre, post, h, _, hl, _ => by
    simp [evParts] at h; subst h
    have : post = [] := List.eq_nil_of_length_eq_zero (by simpa using hl)
    simp [Instr.fill, this]
  | (i, x) :: r, k, vs, pre, post, h, hk, hl, h1 => by
    unfold evParts at h
    cases hb : Nat.beq i k with
    | false => rw [hb] at h; simp at h
    | true =>
      have hik : i = k := Nat.eq_of_beq_eq_true hb
      rw [hb] at h
      simp only [cond_true] at h
      split at h
      · rename_i v l hx hr
        simp only [Option.some.injEq] at h
        subst h
        obtain ⟨p0, post, rfl⟩ : ∃ p0 q, post = p0 :: q := by cases post with | nil => simp at hl | cons p q => exact ⟨p, q, rfl⟩
        have hv := h1 v (by simp)
        have ih := fill_ones ha r (k + 1) l (pre ++ [v]) post hr (by simp [hk]) (by simpa using hl) (fun u hu => h1 u (by simp [hu]))
        simp only [List.map_cons, Instr.fill, ha.eval hx, cells_of_one hv]
        have hsz : ¬ ((#[v] : Array Value).size ≠ 1 || decide (i * 1 + (#[v] : Array Value).size > ({ toList := pre ++ p0 :: post } : Array Value).size)) = true := by
          simp [hik, hk]
        rw [if_neg hsz]
        have hset : (#[v] : Array Value).zipIdx.foldl (fun cs (c, j) => cs.setIfInBounds (i * 1 + j) c) ({ toList := pre ++ p0 :: post } : Array Value) = { toList := (pre ++ [v]) ++ post } := by
          have : (#[v] : Array Value).zipIdx = #[(v, 0)] := rfl
          rw [this]
          simp only [List.size_toArray, List.length_cons, List.length_nil, Nat.zero_add, List.foldl_toArray', List.foldl_cons, List.foldl_nil, Nat.add_zero, Nat.mul_one]
          apply Array.toList_inj.1
          simp [Array.toList_setIfInBounds, hik, hk, List.set_append]
        rw [hset]
        rw [ih]
        simp
      · cases h
theorem run_lit {o : Oper} {t el : TypeId} {k : Nat} {ps : List (Nat × Operand)} {vs : List Value} {z : Value} {bytes : Nat}
    (hT : TabOk P T) (hel : Elem P el z 1 bytes) (ho : o.op = .buildSlice t k ⟨ps⟩)
    (ht : tlook T t = some (.slice el)) (hv : evParts e 0 ps = some vs) (hk : vs.length = k) (hk2 : Nat.ble k 16777216 = true) (h1' : allOne vs = true) :
    ∀ a, Fr N a e → (execOp a.eval o).run P w = .ok (.value (.slice (some ⟨w.heap.size, 0, none⟩) k k)) (w.alloc (.cells ⟨vs⟩ el)) := by
  have hk3 := Nat.le_of_ble_eq_true hk2
  have h1 := allOne_mem h1'
  have hzc : ∃ z0, z.cells = #[z0] := by
    have := hel.zs
    cases hz : z.cells with
    | mk l => rw [hz] at this; simp at this; match l, this with | [x], _ => exact ⟨x, rfl⟩
  obtain ⟨z0, hz0⟩ := hzc
  intro a ha
  obtain ⟨i, hi, hz, hs', hb⟩ := hel.ex
  have hs : (1 : Nat) = 1 := rfl
  have hf := fill_ones ha ps 0 vs [] (List.replicate k z0) hv rfl (by simp [hk]) h1
  simp only [List.nil_append] at hf
  have hpm : (Array.map (fun (x : Nat × Operand) => (x.1, a.eval x.2)) ⟨ps⟩).toList = ps.map fun (i, x) => (i, a.eval x) := by simp
  rcases Nat.eq_zero_or_pos k with h0 | h0
  · subst h0
    have hvs : vs = [] := List.eq_nil_of_length_eq_zero hk
    subst hvs
    have hps : ps = [] := by
      cases ps with
      | nil => rfl
      | cons p r =>
        obtain ⟨i1, x1⟩ := p
        unfold evParts at hv
        cases hb1 : Nat.beq i1 0 with
        | false => rw [hb1] at hv; simp at hv
        | true => rw [hb1] at hv; simp only [cond_true] at hv; split at hv <;> simp at hv
    subst hps
    simp only [execOp, ho, Instr.buildSlice, Sem.run_bind, run_underlying (hT.at ht), Result.andThen_ok, hel.run_size w]
    simp [Instr.fill, newRow, newObj, Sem.run, Array.range_zero']
  · have hzeros : (Array.range (k * 1)).map (fun x => (#[z0] : Array Value)[x % (#[z0] : Array Value).size]!) = ⟨List.replicate k z0⟩ := by
      rw [Nat.mul_one]
      apply Array.toList_inj.1
      apply List.ext_getElem
      · simp
      · intro j h1 h2; simp [Nat.mod_one]
    have hzv : (zeroValue el).run P w = .ok z w := by simp [zeroValue, typeInfo, hi, hz]
    have hle : ¬ k * 1 > 2 ^ 24 := by omega
    have hne : ¬ k * 1 = 0 := by omega
    simp only [execOp, ho, Instr.buildSlice, Sem.run_bind, run_underlying (hT.at ht), Result.andThen_ok, hel.run_size w, hpm, hle, hne, if_false, hzv, hz0, Sem.run_pure, hzeros, hf]
    simp [newRow, newObj, Sem.run]
theorem gl_lit {ops : Array Oper} {o : Oper} {rest : List Oper} {d : Nat} {t el : TypeId} {k : Nat} {ps : List (Nat × Operand)} {vs : List Value} {z : Value} {bytes : Nat}
    (hT : TabOk P T) (hS : St B w0 w L) (hel : Elem P el z 1 bytes) (hd : o.dst = some d) (hg : o.guard = none) (hN : Nat.ble (d + 1) N = true) (ho : o.op = .buildSlice t k ⟨ps⟩)
    (ht : tlook T t = some (.slice el)) (hv : evParts e 0 ps = some vs) (hk : vs.length = k) (hk2 : Nat.ble k 16777216 = true) (h1' : allOne vs = true)
    (h : ∀ g w', St B w0 w' (L ++ [.row (some ⟨g, 0, none⟩) k el 1 k vs]) → GL P N ops ((d, .slice (some ⟨g, 0, none⟩) k k) :: e) rest Q w') : GL P N ops e (o :: rest) Q w := by
  have hk3 := Nat.le_of_ble_eq_true hk2
  have hrun := run_lit (N := N) (w := w) hT hel ho ht hv hk hk2 h1'
  refine gl_step hd (Nat.le_of_ble_eq_true hN) hg hrun (h _ _ (hS.add rfl rfl rfl (by simp) (fun b hb => Below.heap_alloc _ _ b hb) ?_ ?_))
  · refine ⟨by simp [hk], .inr ⟨w.heap.size, k, ⟨vs⟩, rfl, hS.size, heap_alloc_new w _, Nat.le_refl _, Nat.le_refl _, by simp only [maxLen]; omega, by simp [hk], ?_⟩⟩
    rw [Nat.mul_one]; exact List.take_of_length_le (by simp [hk])
  · rintro b ⟨a, h, rfl⟩; injection h with h; rw [← h]; exact Nat.le_refl _

/-! ### variables in memory -/
theorem blk_cell {g : Nat} {t : TypeId} {cs : List Value} (h : w.heap[g]? = some (.cells ⟨cs⟩ t (0, 0))) (i : Nat) : w.cell? ⟨g, i, none⟩ = cs[i]? := by
  rw [cell_of_row w g i ⟨cs⟩ t (0, 0) h]; simp
theorem St.cell (hS : St B w0 w L) {i g : Nat} {t : TypeId} {cs : List Value} (hi : L[i]? = some (.blk g t cs)) (j : Nat) : w.cell? ⟨g, j, none⟩ = cs[j]? := blk_cell (hS.at hi).2 j
theorem gl_box {ops : Array Oper} {o : Oper} {rest : List Oper} {d : Nat} {el : TypeId} {x : Operand} {v : Value}
    (hS : St B w0 w L) (hd : o.dst = some d) (hg : o.guard = none) (hN : Nat.ble (d + 1) N = true) (ho : o.op = .box el x) (hx : evO e x = some v)
    (h : ∀ g w', St B w0 w' (L ++ [.blk g el v.cells.toList]) → GL P N ops ((d, .pointer (some ⟨g, 0, none⟩)) :: e) rest Q w') : GL P N ops e (o :: rest) Q w := by
  have hrun : ∀ a, Fr N a e → (execOp a.eval o).run P w = .ok (.value (.pointer (some ⟨w.heap.size, 0, none⟩))) (w.alloc (.cells ⟨v.cells.toList⟩ el)) := by
    intro a ha
    simp [execOp, ho, ha.eval hx, Instr.box, newVar, newRow, newObj, Sem.run]
  refine gl_step hd (Nat.le_of_ble_eq_true hN) hg hrun (h _ _ (hS.add rfl rfl rfl (by simp) (fun b hb => Below.heap_alloc _ _ b hb) ?_ ?_))
  · exact ⟨hS.size, heap_alloc_new w _⟩
  · rintro b rfl; exact Nat.le_refl _
theorem gl_alloc {ops : Array Oper} {o : Oper} {rest : List Oper} {d : Nat} {el : TypeId} {z : Value} {sz bytes : Nat} (hel : Elem P el z sz bytes)
    (hS : St B w0 w L) (hd : o.dst = some d) (hg : o.guard = none) (hN : Nat.ble (d + 1) N = true) (ho : o.op = .alloc el)
    (h : ∀ g w', St B w0 w' (L ++ [.blk g el z.cells.toList]) → GL P N ops ((d, .pointer (some ⟨g, 0, none⟩)) :: e) rest Q w') : GL P N ops e (o :: rest) Q w := by
  have hrun : ∀ a, Fr N a e → (execOp a.eval o).run P w = .ok (.value (.pointer (some ⟨w.heap.size, 0, none⟩))) (w.alloc (.cells ⟨z.cells.toList⟩ el)) := by
    intro a ha
    obtain ⟨i, hi, hz, _, _⟩ := hel.ex
    have hzv : (zeroValue el).run P w = .ok z w := by simp [zeroValue, typeInfo, hi, hz]
    simp [execOp, ho, Instr.alloc, newVar, newRow, newObj, Sem.run, hzv]
  refine gl_step hd (Nat.le_of_ble_eq_true hN) hg hrun (h _ _ (hS.add rfl rfl rfl (by simp) (fun b hb => Below.heap_alloc _ _ b hb) ?_ ?_))
  · exact ⟨hS.size, heap_alloc_new w _⟩
  · rintro b rfl; exact Nat.le_refl _
/-- A variable of one cell, or a field or an element of one. -/
theorem op_loadB {o : Oper} {t bt : TypeId} {x : Operand} {g j : Nat} {v : Value} {d : TypeDesc} {cs : List Value} (i : Nat) (hT : TabOk P T) (hS : St B w0 w L) (ho : o.op = .load t x) (ht : tlook T t = some d) (hd : isAggD d = false)
    (hx : evO e x = some (.pointer (some ⟨g, j, none⟩))) (hi : L[i]? = some (.blk g bt cs)) (hv : cs[j]? = some v) : OpR P N e w o v :=
  op_load hT ho ht hd hx ((hS.cell hi j).trans hv)
theorem run_load_agg {a : Addr} {cs : List Value} (hc : ∀ j u, cs[j]? = some u → w.cell? (a.add j) = some u) : (loadCells a cs.length).run P w = .ok cs.toArray w := run_loadCells_list w a cs hc
/-- A whole variable of several cells (or some that stand in a row within it). -/
theorem op_loadA {o : Oper} {t bt : TypeId} {x : Operand} {g j sz : Nat} {d : TypeDesc} {cs : List Value} (i : Nat) (hd : P.underlying t = some d) (hd2 : isAggD d = true) (hsz : P.cellsOf t = sz) (hsome : (P.info? t).isSome = true) (hS : St B w0 w L) (ho : o.op = .load t x)
    (hx : evO e x = some (.pointer (some ⟨g, j, none⟩))) (hi : L[i]? = some (.blk g bt cs)) (hl : ((cs.drop j).take sz).length = sz) : OpR P N e w o (.agg ⟨(cs.drop j).take sz⟩) := by
  intro q a ha
  obtain ⟨inf, hinf⟩ := Option.isSome_iff_exists.1 hsome
  have hs : (sizeOf t).run P (World.dr w q) = .ok sz (World.dr w q) := by
    have : inf.size = sz := by rw [← hsz]; simp [Program.cellsOf, hinf]
    simp [sizeOf, typeInfo, hinf, this]
  have hadd : ∀ k, (⟨g, j, none⟩ : Addr).add k = ⟨g, j + k, none⟩ := by intro k; unfold Addr.add; split <;> simp_all
  have hr : (loadCells ⟨g, j, none⟩ sz).run P (World.dr w q) = .ok ((cs.drop j).take sz).toArray (World.dr w q) := by
    have := run_load_agg (P := P) (w := World.dr w q) (a := ⟨g, j, none⟩) (cs := (cs.drop j).take sz) (fun k u hu => by
      rw [hadd]
      rw [List.getElem?_take] at hu
      split at hu
      · rw [List.getElem?_drop] at hu
        exact ((hS.cell hi (j + k)).trans hu : w.cell? ⟨g, j + k, none⟩ = some u)
      · cases hu)
    rwa [hl] at this
  simp only [execOp, ho, ha.eval hx, Instr.loadAt, Instr.sureAddr, loadVar, Sem.run_bind, Sem.run_pure, Result.andThen_ok, pure_bind, run_isAgg hd, hd2, hs, if_true, hr]
theorem run_store1 {g j : Nat} {t : TypeId} {cs : List Value} (hg : w.heap[g]? = some (.cells ⟨cs⟩ t (0, 0))) (hj : j < cs.length) {v : Value} (hv : oneCells v = true) (m : Mode) :
    (store ⟨g, j, none⟩ v m).run P w = .ok () (w.setCell ⟨g, j, none⟩ v) := by
  have hc : w.cell? ⟨g, j, none⟩ = some (cs[j]) := by rw [blk_cell hg]; simp [hj]
  have hf : w.frozen? ⟨g, j, none⟩ = false := by simp [World.frozen?, hg]
  cases v <;> first | (cases hv; done) | simp [store, Sem.run, hc, hf]
theorem setCell_heap {g j : Nat} {t : TypeId} {cs : List Value} (hg : w.heap[g]? = some (.cells ⟨cs⟩ t (0, 0))) (v : Value) : (w.setCell ⟨g, j, none⟩ v).heap[g]? = some (.cells ⟨cs.set j v⟩ t (0, 0)) := by
  simp [World.setCell, Array.getElem?_modify, hg]
theorem St.stored (hS : St B w0 w L) {i g : Nat} {t : TypeId} {cs : List Value} (hi : L[i]? = some (.blk g t cs)) (j : Nat) (v : Value) : St B w0 (w.setCell ⟨g, j, none⟩ v) (L.set i (.blk g t (cs.set j v))) := by
  have hb := hS.at hi
  refine hS.update hi rfl rfl rfl (by simp [World.setCell]) (fun b _ hf => Below.heap_setCell w _ _ b (fun h => hf h)) ⟨hb.1, setCell_heap hb.2 v⟩ (fun b hb => .inl hb)
theorem run_storeVar1 {el : TypeId} {g j : Nat} {t : TypeId} {cs : List Value} (hsz : P.cellsOf el = 1) (hsome : (P.info? el).isSome = true) (hg : w.heap[g]? = some (.cells ⟨cs⟩ t (0, 0))) (hj : j < cs.length) {v : Value} (hv : oneCells v = true) :
    (storeVar el ⟨g, j, none⟩ v).run P w = .ok () (w.setCell ⟨g, j, none⟩ v) := by
  obtain ⟨inf, hinf⟩ := Option.isSome_iff_exists.1 hsome
  have hs : (sizeOf el).run P w = .ok 1 w := by
    have : inf.size = 1 := by rw [← hsz]; simp [Program.cellsOf, hinf]
    simp [sizeOf, typeInfo, hinf, this]
  have h1 := run_store1 (P := P) hg hj hv .plain
  simp only [storeVar, Sem.run_bind, hs, Result.andThen_ok, cells_of_one hv]
  simp only [List.size_toArray, List.length_cons, List.length_nil, Nat.zero_add, ne_eq, not_true_eq_false, if_false, storeCells]
  have ha0 : (⟨g, j, none⟩ : Addr).add 0 = ⟨g, j, none⟩ := by simp [Addr.add]
  simp [ha0, h1]
theorem gl_store {ops : Array Oper} {o : Oper} {rest : List Oper} {el bt : TypeId} {x y : Operand} {g j : Nat} {v : Value} {cs : List Value} (i : Nat) (hS : St B w0 w L) (hsz : P.cellsOf el = 1) (hsome : (P.info? el).isSome = true)
    (hd : o.dst = none) (hg : o.guard = none) (ho : o.op = .store el x y) (hx : evO e x = some (.pointer (some ⟨g, j, none⟩))) (hy : evO e y = some v) (hi : L[i]? = some (.blk g bt cs)) (hj : Nat.ble (j + 1) cs.length = true) (hv : oneCells v = true)
    (h : ∀ w', St B w0 w' (L.set i (.blk g bt (cs.set j v))) → GL P N ops e rest Q w') : GL P N ops e (o :: rest) Q w := by
  refine gl_act (w' := w.setCell ⟨g, j, none⟩ v) hd hg (fun a ha => ?_) (h _ (hS.stored hi j v))
  have h1 := run_storeVar1 (P := P) hsz hsome (hS.at hi).2 (Nat.le_of_ble_eq_true hj) hv
  simp only [execOp, ho, ha.eval hx, ha.eval hy, Instr.storeAt, Instr.sureAddr, Sem.run_bind, Sem.run_pure, Result.andThen_ok, pure_bind, h1]
/-- An operation whose guard says yes. -/
theorem gl_un {ops : Array Oper} {o : Oper} {rest : List Oper} {j t : Nat} {want b : Bool} (hg : o.guard = some (j, want))
    (hj : ((ops[j]?).bind (·.dst)) = some t) (hl : look e t = some (.bool b)) (hwant : b = want) (h : GL P N ops e ({ o with guard := none } :: rest) Q w) : GL P N ops e (o :: rest) Q w := by
  intro a ha
  have hw : Region.wanted o (yielded ops a.tmps) = true := by
    simp [Region.wanted, hg, yielded_of hj ha hl, hwant]
  have := h a ha
  unfold wpList at this ⊢
  rw [if_pos (by simp [Region.wanted])] at this
  rw [if_pos hw]
  exact this
theorem gq_un {ops : Array Oper} {o : Oper} {rest : List Oper} {Qa : Act → Prop} {C : World → Prop} {j t : Nat} {want b : Bool} (hg : o.guard = some (j, want))
    (hj : ((ops[j]?).bind (·.dst)) = some t) (hl : look e t = some (.bool b)) (hwant : b = want) (h : GQ P N ops e ({ o with guard := none } :: rest) C Qa) : GQ P N ops e (o :: rest) C Qa := by
  intro a ha
  have hw : Region.wanted o (yielded ops a.tmps) = true := by
    simp [Region.wanted, hg, yielded_of hj ha hl, hwant]
  have := h a ha
  unfold wpQuiet at this ⊢
  rw [if_pos (by simp [Region.wanted])] at this
  rw [if_pos hw]
  exact this
/-- Where several ways meet again. -/
theorem gc_cut {x y : Code} (I : Act → World → Prop) (h1 : GC P N e x (Exit.then I Q) w) (h2 : ∀ a w', I a w' → y.wp P Q a w') : GC P N e (.seq x y) Q w :=
  fun a ha => wp_seq (wp_mono (h1 a ha) fun ex a' w' hq => by cases ex <;> first | exact h2 _ _ hq | exact hq)
end
end Go.Proofs.YtpeomdobcobdiaaDoor
