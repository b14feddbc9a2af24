/- Our own words: a new map, a slice's literal of two elements of several cells, structs of whole numbers compared. Nothing here speaks of a statement; no condition. -/
import Derived.Test.YtkfhablonnjgeaaDoorLibV
import Derived.Laws.StructEq
namespace Go.Proofs.YtkfhablonnjgeaaDoor
open Go.RowKit
set_option linter.unusedVariables false
set_option linter.unusedSimpArgs false
section
variable {P : Program} {N : Nat} {e : Env} {Q : Exit → Act → World → Prop} {w w0 : World} {T : TyTab} {B : Nat} {L : List It}
theorem gl_map {ops : Array Oper} {o : Oper} {rest : List Oper} {d : Nat} {t : TypeId}
    (hS : St B w0 w L) (hd : o.dst = some d) (hg : o.guard = none) (hN : Nat.ble (d + 1) N = true) (ho : o.op = .makeMap t none)
    (h : ∀ g w', St B w0 w' (L ++ [.obj g (.map #[] 0)]) → GL P N ops ((d, .map (some g)) :: e) rest Q w') : GL P N ops e (o :: rest) Q w := by
  have hrun : ∀ a, Fr N a e → (execOp a.eval o).run P w = .ok (.value (.map (some w.heap.size))) (w.alloc (.map #[] 0)) := by
    intro a ha
    simp [execOp, ho, Instr.makeMap, newObj, Sem.run]
  refine gl_step hd (Nat.le_of_ble_eq_true hN) hg hrun (h _ _ (hS.add rfl rfl rfl (by simp) (fun b hb => Below.heap_alloc _ _ b hb) ?_ ?_))
  · exact ⟨hS.size, heap_alloc_new w _⟩
  · rintro b rfl; exact Nat.le_refl _
theorem gl_lit2 {ops : Array Oper} {o : Oper} {rest : List Oper} {d : Nat} {t el : TypeId} {x y : Operand} {vs us : List Value} {z : Value} {sz bytes : Nat}
    (hT : TabOk P T) (hS : St B w0 w L) (hel : Elem P el z sz bytes) (hd : o.dst = some d) (hg : o.guard = none) (hN : Nat.ble (d + 1) N = true) (ho : o.op = .buildSlice t 2 #[(0, x), (1, y)])
    (ht : tlook T t = some (.slice el)) (hx : evO e x = some (.agg ⟨vs⟩)) (hy : evO e y = some (.agg ⟨us⟩)) (hl : vs.length = sz) (hl2 : us.length = sz) (hk : sz ≤ 1000)
    (h : ∀ g w', St B w0 w' (L ++ [.row (some ⟨g, 0, none⟩) 2 el sz 2 (vs ++ us)]) → GL P N ops ((d, .slice (some ⟨g, 0, none⟩) 2 2) :: e) rest Q w') : GL P N ops e (o :: rest) Q w := by
  obtain ⟨i, hi, hz, hs', hb⟩ := hel.ex
  have hpos := hel.pos
  have hrun : ∀ a, Fr N a e → (execOp a.eval o).run P w = .ok (.value (.slice (some ⟨w.heap.size, 0, none⟩) 2 2)) (w.alloc (.cells ⟨vs ++ us⟩ el)) := by
    intro a ha
    have hzv : (zeroValue el).run P w = .ok z w := by simp [zeroValue, typeInfo, hi, hz]
    have hzl : ((Array.range (2 * sz)).map (z.cells[· % z.cells.size]!)).toList.length = 2 * sz := by simp
    have hf : Instr.fill (fun i => some (i * sz, sz)) ((Array.range (2 * sz)).map (z.cells[· % z.cells.size]!)) [(0, .agg ⟨vs⟩), (1, .agg ⟨us⟩)] = some ⟨vs ++ us⟩ := by
      have h0 : fillL [(0, sz), (sz, sz)] ((Array.range (2 * sz)).map (z.cells[· % z.cells.size]!)).toList [(0, .agg ⟨vs⟩), (1, .agg ⟨us⟩)] = some (vs ++ us) := by
        generalize ((Array.range (2 * sz)).map (z.cells[· % z.cells.size]!)).toList = zs at hzl
        have hcl : cellsL (.agg ⟨vs⟩) = vs := rfl
        have hcu : cellsL (.agg ⟨us⟩) = us := rfl
        have hb2 : (Nat.beq vs.length sz && Nat.ble (0 + sz) zs.length) = true := by simp [hl]; omega
        have e1 : putL zs 0 vs = vs ++ zs.drop sz := by rw [putL_eq _ _ _ (by omega), List.take_zero, List.nil_append, Nat.zero_add, hl]
        have hb3 : (Nat.beq us.length sz && Nat.ble (sz + sz) (vs ++ zs.drop sz).length) = true := by simp [hl, hl2]; omega
        have e2 : putL (vs ++ zs.drop sz) sz us = vs ++ us := by
          rw [putL_eq _ _ _ (by simp; omega), List.take_left' hl, List.drop_eq_nil_of_le (by simp; omega), List.append_nil]
        simp only [fillL, List.getElem?_cons_zero, List.getElem?_cons_succ, hcl, hcu, hb2, cond_true, e1, hb3, e2]
      have := fill_of_L (place := fun i => some (i * sz, sz)) (pl := [(0, sz), (sz, sz)]) (fun j p hp => by
        match j with
        | 0 => simp at hp; subst hp; simp
        | 1 => simp at hp; subst hp; simp
        | j + 2 => simp at hp) _ _ _ h0
      exact this
    have hle : ¬ 2 * sz > 2 ^ 24 := by omega
    have hne : ¬ 2 * sz = 0 := by omega
    simp only [execOp, ho, Instr.buildSlice, Sem.run_bind, run_underlying (hT.at ht), Result.andThen_ok, hel.run_size w, List.map_toArray, List.map_cons, List.map_nil, ha.eval hx, ha.eval hy, hle, hne, if_false, hzv, Sem.run_pure, hf]
    simp [newRow, newObj, Sem.run]
  refine gl_step hd (Nat.le_of_ble_eq_true hN) hg hrun (h _ _ (hS.add rfl rfl rfl (by simp) (fun b hb => Below.heap_alloc _ _ b hb) ?_ ?_))
  · refine ⟨by simp [hl, hl2]; omega, .inr ⟨w.heap.size, 2, ⟨vs ++ us⟩, rfl, hS.size, heap_alloc_new w _, Nat.le_refl _, Nat.le_refl _, by simp only [maxLen]; omega, by simp [hl, hl2]; omega, ?_⟩⟩
    exact List.take_of_length_le (by simp [hl, hl2]; omega)
  · rintro b ⟨a, h, rfl⟩; injection h with h; rw [← h]; exact Nat.le_refl _
/-- What a comparison of structs of three whole numbers asks of their type. -/
structure ThreeInts (P : Program) (t : TypeId) (f0 f1 f2 : Field) : Prop where
  fs : P.fieldsOf t = #[f0, f1, f2]
  ty : P.underlying t = some (.struct #[f0, f1, f2])
  n0 : f0.name ≠ "_"
  n1 : f1.name ≠ "_"
  n2 : f2.name ≠ "_"
  t0 : P.underlying f0.type = some (.int .i64)
  t1 : P.underlying f1.type = some (.int .i64)
  t2 : P.underlying f2.type = some (.int .i64)
  o0 : f0.offset = 0
  o1 : f1.offset = 1
  o2 : f2.offset = 2
  st : P.stoodInHeld t = false
  gd : P.eqGuardType P.depth t = false
theorem run_part1 {t : TypeId} {cs : Array Value} {j : Nat} {v : Value} (ht : P.underlying t = some (.int .i64)) (hv : cs[j]? = some v) : (part t cs j).run P w = .ok v w := by
  simp [part, run_isAgg ht, isAggD, hv, Sem.run_bind]
theorem run_eq3 {t : TypeId} {f0 f1 f2 : Field} (h : ThreeInts P t f0 f1 f2) (a b c a' b' c' : Int) :
    (Op.equalIn 10000 t (.agg #[.int .i64 a, .int .i64 b, .int .i64 c]) (.agg #[.int .i64 a', .int .i64 b', .int .i64 c'])).run P w = .ok (decide (a = a' ∧ b = b' ∧ c = c')) w := by
  have i0 : ∀ a b : Int, (Op.equalIn 9999 f0.type (.int .i64 a) (.int .i64 b)).run P w = .ok (a == b) w := fun a b => run_equalIn_int w 9998 f0.type .i64 .i64 a b h.t0
  have i1 : ∀ a b : Int, (Op.equalIn 9999 f1.type (.int .i64 a) (.int .i64 b)).run P w = .ok (a == b) w := fun a b => run_equalIn_int w 9998 f1.type .i64 .i64 a b h.t1
  have i2 : ∀ a b : Int, (Op.equalIn 9999 f2.type (.int .i64 a) (.int .i64 b)).run P w = .ok (a == b) w := fun a b => run_equalIn_int w 9998 f2.type .i64 .i64 a b h.t2
  rw [run_equalIn_agg w 9999 t _ _ (by rw [h.fs]; exact h.ty) h.st, h.fs]
  simp only [Op.eqFields, h.n0, h.n1, h.n2, h.o0, h.o1, h.o2, ne_eq, not_false_eq_true, if_true, Sem.run_bind, run_part1 (w := w) (v := Value.int .i64 a) h.t0 (show (#[Value.int .i64 a, .int .i64 b, .int .i64 c] : Array Value)[0]? = some _ from rfl),
    run_part1 (w := w) (v := Value.int .i64 a') h.t0 (show (#[Value.int .i64 a', .int .i64 b', .int .i64 c'] : Array Value)[0]? = some _ from rfl), Result.andThen_ok]
  rw [i0]
  simp only [Result.andThen_ok]
  by_cases e0 : a = a'
  · subst e0
    simp only [beq_self_eq_true, Bool.not_true, Bool.false_eq_true, if_false, Sem.run_bind, run_part1 (w := w) (v := Value.int .i64 b) h.t1 (show (#[Value.int .i64 a, .int .i64 b, .int .i64 c] : Array Value)[1]? = some _ from rfl),
      run_part1 (w := w) (v := Value.int .i64 b') h.t1 (show (#[Value.int .i64 a, .int .i64 b', .int .i64 c'] : Array Value)[1]? = some _ from rfl), Result.andThen_ok]
    rw [i1]
    simp only [Result.andThen_ok]
    by_cases e1 : b = b'
    · subst e1
      simp only [beq_self_eq_true, Bool.not_true, Bool.false_eq_true, if_false, Sem.run_bind, run_part1 (w := w) (v := Value.int .i64 c) h.t2 (show (#[Value.int .i64 a, .int .i64 b, .int .i64 c] : Array Value)[2]? = some _ from rfl),
        run_part1 (w := w) (v := Value.int .i64 c') h.t2 (show (#[Value.int .i64 a, .int .i64 b, .int .i64 c'] : Array Value)[2]? = some _ from rfl), Result.andThen_ok]
      rw [i2]
      simp only [Result.andThen_ok]
      by_cases e2 : c = c'
      · subst e2; simp
      · simp [e2]
    · simp [e1]
  · simp [e0]
theorem op_neq3 {o : Oper} {t yt : TypeId} {x y : Operand} {f0 f1 f2 : Field} {a b c a' b' c' : Int} (h : ThreeInts P t f0 f1 f2) (ho : o.op = .binOp .neq t x y yt) (hx : evO e x = some (.agg ⟨[.int .i64 a, .int .i64 b, .int .i64 c]⟩)) (hy : evO e y = some (.agg ⟨[.int .i64 a', .int .i64 b', .int .i64 c']⟩)) :
    OpR P N e w o (.bool (!decide (a = a' ∧ b = b' ∧ c = c'))) := by
  intro q m ha
  simp only [execOp, ho, ha.eval hx, ha.eval hy, Sem.run_bind, run_eqGuard_agg _ .neq t x y _ _ h.gd, Result.andThen_ok, run_neq_struct, run_eq3 h, Sem.run_pure]
theorem op_eql3 {o : Oper} {t yt : TypeId} {x y : Operand} {f0 f1 f2 : Field} {a b c a' b' c' : Int} (h : ThreeInts P t f0 f1 f2) (ho : o.op = .binOp .eql t x y yt) (hx : evO e x = some (.agg ⟨[.int .i64 a, .int .i64 b, .int .i64 c]⟩)) (hy : evO e y = some (.agg ⟨[.int .i64 a', .int .i64 b', .int .i64 c']⟩)) :
    OpR P N e w o (.bool (decide (a = a' ∧ b = b' ∧ c = c'))) := by
  intro q m ha
  simp only [execOp, ho, ha.eval hx, ha.eval hy, Sem.run_bind, run_eqGuard_agg _ .eql t x y _ _ h.gd, Result.andThen_ok, run_eql_struct, run_eq3 h, Sem.run_pure]
/-- The cells of an element of several cells. -/
theorem RdS.cells {α : Type} {ok : Nat → Prop} {enc : α → List Value} {sz : Nat} {A : Option Addr} {l : List α} (h : RdS w ok enc sz A l) {ad : Addr} (hA : A = some ad) {i : Nat} {x : α} (hi : l[i]? = some x) : ∀ j v, (enc x)[j]? = some v → w.cell? ((ad.add (i * sz)).add j) = some v := by
  obtain ⟨ad2, h1, h2⟩ := h.at hi
  rw [hA] at h1
  cases h1
  exact h2
theorem RdS.old {α : Type} {ok : Nat → Prop} {enc : α → List Value} {sz : Nat} {A : Option Addr} {l : List α} (h : RdS w0 ok enc sz A l) (hsz : 0 < sz) {L0 : List It} (hS : St w0.heap.size w0 w L0) : RdS w ok enc sz A l := ⟨h.1.old hsz hS, h.2⟩
end
end Go.Proofs.YtkfhablonnjgeaaDoor
