/- Contracts of functions that CodeProps reaches, and words to say them. No condition. -/
import Derived.Test.YtnomlloaahoceaaDoorZ02
import Derived.Laws.Tables
import Derived.Laws.Small
import Derived.Laws.Cover1
import Derived.Recover
import Derived.Test.YtnomlloaahoceaaDoorZ01
import Derived.Test.YtnomlloaahoceaaDoorProg
/- Our own words: structs in variables and in slices. Nothing here speaks of a statement; no condition. -/
namespace Go.Proofs.YtnomlloaahoceaaDoor
open Go.RowKit
set_option linter.unusedVariables false
set_option linter.unusedSimpArgs false
section
variable {P : Program} {N : Nt} {e : Env} {Q : Exit → Act → World → Prop} {w w0 w' : World} {T : TyTab} {B : Nat} {L : List It}
theorem addB (g k j : Nat) : (⟨g, k, none⟩ : Addr).add j = ⟨g, k + j, none⟩ := by
  unfold Addr.add; split
  · rename_i h; subst h; rfl
  · rfl
theorem op_fieldB {o : Oper} {s : TypeId} {x : Operand} {k : Nat} {fields : Array Field} {f : Field} {g k0 : Nat} {z : Value} {sz bytes : Nat} (j : Nat) (ho : o.op = .fieldAddr s x k) (hs : P.underlying s = some (.struct fields)) (hf : fields[k]? = some f) (hel : Elem P f.type z sz bytes)
    (hx : evO e x = some (.pointer (some ⟨g, k0, none⟩))) (hj : k0 + f.offset = j) : OpR P N e w o (.pointer (some ⟨g, j, none⟩)) := by
  have := op_fieldAddr (N := N) (w := w) ho hs hf hel hel.pos hx
  rwa [addB, hj] at this
theorem run_loadVarB {t bt : TypeId} {g j sz bytes : Nat} {z : Value} {d : TypeDesc} {cs vs : List Value} (i : Nat) (hd : P.underlying t = some d) (hd2 : isAggD d = true) (hel : Elem P t z sz bytes) (hS : St B w0 w L) (hi : L[i]? = some (.blk g bt cs))
    (hv : (cs.drop j).take sz = vs) (hl : vs.length = sz) : (loadVar t ⟨g, j, none⟩).run P w = .ok (.agg ⟨vs⟩) w := by
  have hadd : ∀ k, (⟨g, j, none⟩ : Addr).add k = ⟨g, j + k, none⟩ := addB g j
  have hr : (loadCells ⟨g, j, none⟩ sz).run P w = .ok vs.toArray w := by
    have := run_load_agg (P := P) (w := w) (a := ⟨g, j, none⟩) (cs := vs) (fun k u hu => by
      rw [hadd]
      rw [← hv, List.getElem?_take] at hu
      split at hu
      · rw [List.getElem?_drop] at hu
        exact (hS.cell hi (j + k)).trans hu
      · cases hu)
    rwa [hl] at this
  simp only [loadVar, Sem.run_bind, run_isAgg hd, hd2, Result.andThen_ok, hel.run_size w, if_true, hr, Sem.run_pure]
theorem op_loadG {o : Oper} {t bt : TypeId} {x : Operand} {g j sz bytes : Nat} {z : Value} {d : TypeDesc} {cs vs : List Value} (i : Nat) (hd : P.underlying t = some d) (hd2 : isAggD d = true) (hel : Elem P t z sz bytes) (hS : St B w0 w L) (ho : o.op = .load t x)
    (hx : evO e x = some (.pointer (some ⟨g, j, none⟩))) (hi : L[i]? = some (.blk g bt cs)) (hv : (cs.drop j).take sz = vs) (hl : vs.length = sz) : OpR P N e w o (.agg ⟨vs⟩) := by
  intro q a ha
  have h1 := run_loadVarB (P := P) i hd hd2 hel (hS.dr q) hi hv hl
  simp only [execOp, ho, ha.eval hx, Instr.loadAt, Instr.sureAddr, Sem.run_bind, Sem.run_pure, Result.andThen_ok, pure_bind, h1]
/-! ### results -/
def resV (P : Program) (w : World) (e : Env) : ResultVar → Value → Prop
  | .tmp t, v => look e t = some v
  | .cell a t, v => ∃ p, look e a = some (.pointer (some p)) ∧ (loadVar t p).run P w = .ok v w
def resR (tmps : Array Value) : ResultVar → Sem Value
  | .tmp t => pure (tmps.getD t undef)
  | .cell a t => do loadVar t (← asAddr (tmps.getD a undef))
theorem run_resR {a : Act} (ha : Fr N a e) {r : ResultVar} {v : Value} (h : resV P w e r v) : (resR a.tmps r).run P w = .ok v w := by
  cases r with
  | tmp t => simp [resR, getD_of ha h]
  | cell t ty =>
    obtain ⟨p, h1, h2⟩ := h
    simp [resR, getD_of ha h1, asAddr, h2]
theorem results_eq (fn : Func) (tmps : Array Value) : results fn tmps = (do let vs ← fn.results.mapM (resR tmps); pure (if h : vs.size = 1 then vs[0] else .tuple vs)) := by
  unfold results
  congr 1
theorem gk_res1 {fn : Func} {R : Ending → World → Prop} {r1 : ResultVar} {v1 : Value} (hr : fn.results = #[r1]) (h1 : resV P w e r1 v1) (h : R (.returned v1) w) (hds : N.ds = [] := by rfl) : GK N e (bodyPost P fn R .ret) w := fun a ha =>
  ⟨ha.defers.trans hds, _, by rw [results_eq, hr]; simp [run_resR ha h1], h⟩
theorem gk_res2 {fn : Func} {R : Ending → World → Prop} {r1 r2 : ResultVar} {v1 v2 : Value} (hr : fn.results = #[r1, r2]) (h1 : resV P w e r1 v1) (h2 : resV P w e r2 v2) (h : R (.returned (.tuple #[v1, v2])) w) (hds : N.ds = [] := by rfl) : GK N e (bodyPost P fn R .ret) w := fun a ha =>
  ⟨ha.defers.trans hds, _, by rw [results_eq, hr]; simp [run_resR ha h1, run_resR ha h2], h⟩
theorem run_loadVar1 {t bt : TypeId} {g j : Nat} {d : TypeDesc} {cs : List Value} {v : Value} (i : Nat) (hT : TabOk P T) (hS : St B w0 w L) (ht : tlook T t = some d) (hd : isAggD d = false) (hi : L[i]? = some (.blk g bt cs)) (hv : cs[j]? = some v) : (loadVar t ⟨g, j, none⟩).run P w = .ok v w := by
  have hc := (hS.cell hi j).trans hv
  simp only [loadVar, Sem.run_bind, run_isAgg (hT.at ht), hd, Result.andThen_ok]
  simp [load, Sem.run, hc]
theorem gk_ret5 {fn : Func} {R : Ending → World → Prop} {t1 t2 t3 t4 t5 : Nat} {v1 v2 v3 v4 v5 : Value} (hr : fn.results = #[.tmp t1, .tmp t2, .tmp t3, .tmp t4, .tmp t5]) (h1 : look e t1 = some v1) (h2 : look e t2 = some v2)
    (h3 : look e t3 = some v3) (h4 : look e t4 = some v4) (h5 : look e t5 = some v5) (h : R (.returned (.tuple #[v1, v2, v3, v4, v5])) w) (hds : N.ds = [] := by rfl) : GK N e (bodyPost P fn R .ret) w := fun a ha =>
  ⟨ha.defers.trans hds, .tuple #[v1, v2, v3, v4, v5], by simp [results, hr, ha.get _ _ h1, ha.get _ _ h2, ha.get _ _ h3, ha.get _ _ h4, ha.get _ _ h5], h⟩
/-! ### building -/
def cellsL (v : Value) : List Value := v.cells.toList
def putL (zs : List Value) (off : Nat) : List Value → List Value
  | [c] => zs.set off c
  | cs => zs.take off ++ cs ++ zs.drop (off + cs.length)
theorem putL_eq (zs : List Value) (off : Nat) (cs : List Value) (h : off + cs.length ≤ zs.length) : putL zs off cs = zs.take off ++ cs ++ zs.drop (off + cs.length) := by
  match cs, h with
  | [], _ => rfl
  | [c], h =>
    simp only [List.length_singleton] at h ⊢
    show zs.set off c = _
    rw [List.set_eq_take_append_cons_drop, if_pos (by omega)]; simp
  | _ :: _ :: _, _ => rfl
def fillL (pl : List (Nat × Nat)) : List Value → List (Nat × Value) → Option (List Value)
  | zs, [] => some zs
  | zs, (i, v) :: r => match pl[i]? with
    | none => none
    | some (off, size) => bif Nat.beq (cellsL v).length size && Nat.ble (off + size) zs.length then fillL pl (putL zs off (cellsL v)) r else none
theorem fold_set : ∀ (cs : List Value) (k off : Nat) (zs : List Value), off + k + cs.length ≤ zs.length →
    (cs.zipIdx k).foldl (fun (acc : Array Value) (p : Value × Nat) => acc.setIfInBounds (off + p.2) p.1) ⟨zs⟩ = ⟨zs.take (off + k) ++ cs ++ zs.drop (off + k + cs.length)⟩
  | [], k, off, zs, h => by simp
  | c :: cs, k, off, zs, h => by
    simp only [List.length_cons] at h
    rw [List.zipIdx_cons, List.foldl_cons]
    have e1 : (⟨zs⟩ : Array Value).setIfInBounds (off + k) c = ⟨zs.set (off + k) c⟩ := by simp
    rw [e1, fold_set cs (k + 1) off _ (by simp; omega)]
    congr 1
    have e2 : (zs.set (off + k) c).take (off + (k + 1)) = zs.take (off + k) ++ [c] := by
      apply List.ext_getElem?
      intro j
      rw [List.getElem?_take, List.getElem?_set, List.getElem?_append, List.length_take, List.getElem?_take]
      have hm : min (off + k) zs.length = off + k := by omega
      rw [hm]
      by_cases h1 : j < off + k
      · rw [if_pos (by omega), if_neg (by omega), if_pos h1, if_pos h1]
      · by_cases h2 : j = off + k
        · subst h2
          rw [if_pos (by omega), if_pos rfl, if_pos (by omega), if_neg (by omega)]; simp
        · rw [if_neg (by omega), if_neg (by omega), List.getElem?_eq_none (by simp; omega)]
    have e3 : (zs.set (off + k) c).drop (off + (k + 1) + cs.length) = zs.drop (off + k + (cs.length + 1)) := by
      rw [List.drop_set_of_lt (by omega)]; congr 1; omega
    rw [e2, e3, List.length_cons]
    simp
theorem fill_of_L {place : Nat → Option (Nat × Nat)} {pl : List (Nat × Nat)} (hp : ∀ i p, pl[i]? = some p → place i = some p) : ∀ (ps : List (Nat × Value)) (zs cs : List Value), fillL pl zs ps = some cs → Instr.fill place ⟨zs⟩ ps = some ⟨cs⟩
  | [], zs, cs, h => by simp [fillL] at h; subst h; rfl
  | (i, v) :: r, zs, cs, h => by
    unfold fillL at h
    cases hi : pl[i]? with
    | none => rw [hi] at h; cases h
    | some p =>
      obtain ⟨off, size⟩ := p
      rw [hi] at h
      simp only at h
      cases hb : (Nat.beq (cellsL v).length size && Nat.ble (off + size) zs.length) with
      | false => rw [hb] at h; cases h
      | true =>
        rw [hb] at h
        simp only [cond_true] at h
        simp only [Bool.and_eq_true, Nat.beq_eq, Nat.ble_eq] at hb
        have hl : v.cells.size = size := by rw [← hb.1]; simp [cellsL]
        unfold Instr.fill
        rw [hp i _ hi]
        simp only
        have hc : ¬ ((decide (v.cells.size ≠ size) || decide (off + v.cells.size > (⟨zs⟩ : Array Value).size)) = true) := by simp [hl]; omega
        rw [if_neg hc]
        have hf := fold_set v.cells.toList 0 off zs (by rw [Array.length_toList, hl]; omega)
        have e1 : v.cells.zipIdx.foldl (fun (acc : Array Value) (p : Value × Nat) => acc.setIfInBounds (off + p.2) p.1) (⟨zs⟩ : Array Value) = ⟨zs.take off ++ cellsL v ++ zs.drop (off + size)⟩ := by
          rw [← Array.foldl_toList, Array.toList_zipIdx, hf]
          simp only [Nat.add_zero, Array.length_toList, hl, cellsL]
        have e2 : v.cells.zipIdx.foldl (fun (cs : Array Value) (x : Value × Nat) => match x with | (c, j) => cs.setIfInBounds (off + j) c) (⟨zs⟩ : Array Value) = ⟨zs.take off ++ cellsL v ++ zs.drop (off + size)⟩ := e1
        rw [e2]
        rw [putL_eq zs off (cellsL v) (by omega), hb.1] at h
        exact fill_of_L hp r _ cs h
def plan (P : Program) (t : TypeId) : Option (List Value × List (Nat × Nat)) :=
  match P.info? t, P.underlying t with
  | some it, some (.array n e) => match it.zero, P.info? e with
    | some z, some ie => some (z.cells.toList, (List.range n).map fun i => (i * ie.size, ie.size))
    | _, _ => none
  | some it, some (.struct fields) => match it.zero, fields.toList.mapM (fun f => (P.info? f.type).map fun i => (f.offset, i.size)) with
    | some z, some places => some (z.cells.toList, places)
    | _, _ => none
  | _, _ => none
theorem built_of_plan {t : TypeId} {zs : List Value} {pl : List (Nat × Nat)} (h : plan P t = some (zs, pl)) {ps : List (Nat × Value)} {cs : List Value} (hf : fillL pl zs ps = some cs) : P.built t ps = some ⟨cs⟩ := by
  unfold plan at h
  unfold Program.built
  cases hit : P.info? t with
  | none => simp [hit] at h
  | some it =>
    cases hu : P.underlying t with
    | none => simp [hit, hu] at h
    | some d =>
      cases hz : it.zero with
      | none => cases d <;> simp [hit, hu, hz] at h
      | some z =>
        cases d <;> try (simp [hit, hu] at h; done)
        case array n e =>
          cases hie : P.info? e with
          | none => simp [hit, hu, hz, hie] at h
          | some ie =>
            simp only [hit, hu, hz, hie, Option.some.injEq, Prod.mk.injEq] at h
            obtain ⟨rfl, rfl⟩ := h
            simp only [hie, hz]
            refine fill_of_L (fun i p hp => ?_) ps z.cells.toList cs hf
            rw [List.getElem?_map] at hp
            cases hr : (List.range n)[i]? with
            | none => rw [hr] at hp; cases hp
            | some k =>
              rw [hr] at hp
              obtain ⟨hlt, hk⟩ := List.getElem?_eq_some_iff.1 hr
              simp at hk
              subst hk
              simpa using hp
        case struct fields =>
          cases hp : fields.toList.mapM (fun f => (P.info? f.type).map fun i => (f.offset, i.size)) with
          | none => simp [hit, hu, hz, hp] at h
          | some places =>
            simp only [hit, hu, hz, hp, Option.some.injEq, Prod.mk.injEq] at h
            obtain ⟨rfl, rfl⟩ := h
            simp only [hp, hz]
            exact fill_of_L (fun i p hp => by simpa using hp) ps z.cells.toList cs hf
def evPs (e : Env) : List (Nat × Operand) → Option (List (Nat × Value))
  | [] => some []
  | (i, x) :: r => match evO e x, evPs e r with
    | some v, some l => some ((i, v) :: l)
    | _, _ => none
theorem evPs_map {a : Act} (ha : Fr N a e) : ∀ {ps : List (Nat × Operand)} {l : List (Nat × Value)}, evPs e ps = some l → (ps.map fun (i, x) => (i, a.eval x)) = l
  | [], l, h => by simp [evPs] at h; simp [h]
  | (i, x) :: r, l, h => by
    unfold evPs at h
    split at h
    · rename_i v l' hx hr
      simp only [Option.some.injEq] at h
      subst h
      simp [ha.eval hx, evPs_map ha hr]
    · cases h
theorem op_buildG {o : Oper} {t : TypeId} {ps : List (Nat × Operand)} {zs cs : List Value} {pl : List (Nat × Nat)} {ivs : List (Nat × Value)} (ho : o.op = .build t ⟨ps⟩) (hp : plan P t = some (zs, pl)) (hv : evPs e ps = some ivs) (hf : fillL pl zs ivs = some cs) : OpR P N e w o (.agg ⟨cs⟩) := by
  intro q a ha
  have h1 := run_build (P := P) (World.dr w q) t ⟨ivs⟩ ⟨cs⟩ (built_of_plan hp hf)
  have hpm : Array.map (fun (x : Nat × Operand) => (x.1, a.eval x.2)) ⟨ps⟩ = ⟨ivs⟩ := by
    have := evPs_map ha hv
    apply Array.toList_inj.1
    simpa using this
  simp only [execOp, ho, hpm, Sem.run_bind, h1, Result.andThen_ok, Sem.run_pure]
/-! ### stores of many cells -/
def spliceL (cs : List Value) (j : Nat) (vs : List Value) : List Value := cs.take j ++ vs ++ cs.drop (j + vs.length)
theorem gl_storeM {ops : Array Oper} {o : Oper} {rest : List Oper} {t bt : TypeId} {x y : Operand} {g j : Nat} {vs cs : List Value} {z : Value} {sz bytes : Nat} (i : Nat) (hS : St B w0 w L) (hel : Elem P t z sz bytes)
    (hd : o.dst = none) (hg : o.guard = none) (ho : o.op = .store t x y) (hx : evO e x = some (.pointer (some ⟨g, j, none⟩))) (hy : evO e y = some (.agg ⟨vs⟩)) (hi : L[i]? = some (.blk g bt cs)) (hl : vs.length = sz) (hc : Nat.ble (j + sz) cs.length = true) (h1 : allOne vs = true)
    (h : ∀ w', St B w0 w' (L.set i (.blk g bt (spliceL cs j vs))) → GL P N ops e rest Q w') : GL P N ops e (o :: rest) Q w := by
  have hb := hS.at hi
  have hc' := Nat.le_of_ble_eq_true hc
  refine gl_act (w' := w.setRow g ⟨spliceL cs j vs⟩) hd hg (fun a ha => ?_) (h _ (hS.update hi rfl rfl rfl (by simp) (fun b _ hf => setRow_other w g b _ hf) ⟨hb.1, setRow_heap w g _ _ _ _ hb.2⟩ (fun b hb => .inl hb)))
  have hst := run_storeCells_at (P := P) g j bt vs 0 ⟨cs⟩ w hb.2 (by simp; omega) (fun v hv => oneCell'_of (allOne_mem h1 v hv))
  have hst2 : (storeCells ⟨g, j, none⟩ vs).run P w = .ok () (w.setRow g ⟨spliceL cs j vs⟩) := by
    have e3 : ((⟨cs⟩ : Array Value).toList.take (j + 0) ++ vs ++ (⟨cs⟩ : Array Value).toList.drop (j + 0 + vs.length)).toArray = ⟨spliceL cs j vs⟩ := by simp [spliceL]
    rw [e3] at hst
    exact hst
  simp only [execOp, ho, ha.eval hx, ha.eval hy, Instr.storeAt, Instr.sureAddr, storeVar, Sem.run_bind, Sem.run_pure, Result.andThen_ok, pure_bind, Value.cells, hel.run_size w, List.size_toArray, hl, ne_eq, not_true_eq_false, if_false, hst2]
/-! ### elements of several cells -/
def RdS {α : Type} (w : World) (ok : Nat → Prop) (enc : α → List Value) (sz : Nat) (A : Option Addr) (l : List α) : Prop := Rd w ok A l.length sz (l.map enc).flatten ∧ ∀ x, (enc x).length = sz
theorem flat_at {α : Type} {enc : α → List Value} {sz : Nat} (hz : ∀ x, (enc x).length = sz) : ∀ (l : List α) (i j : Nat) (x : α) (v : Value), l[i]? = some x → (enc x)[j]? = some v → (l.map enc).flatten[i * sz + j]? = some v
  | [], i, j, x, v, h, _ => by simp at h
  | y :: l, 0, j, x, v, h, hv => by
    simp at h; subst h
    have := (List.getElem?_eq_some_iff.1 hv).1
    rw [List.map_cons, List.flatten_cons, Nat.zero_mul, Nat.zero_add, List.getElem?_append_left this]; exact hv
  | y :: l, i + 1, j, x, v, h, hv => by
    rw [List.map_cons, List.flatten_cons, List.getElem?_append_right (by rw [hz, Nat.add_mul]; omega), hz, show (i + 1) * sz + j - sz = i * sz + j by rw [Nat.add_mul]; omega]
    exact flat_at hz l i j x v (by simpa using h) hv
theorem RdS.at {α : Type} {ok : Nat → Prop} {enc : α → List Value} {sz : Nat} {A : Option Addr} {l : List α} (h : RdS w ok enc sz A l) {i : Nat} {x : α} (hi : l[i]? = some x) :
    ∃ ad, A = some ad ∧ ∀ j v, (enc x)[j]? = some v → w.cell? ((ad.add (i * sz)).add j) = some v := by
  have hlt := (List.getElem?_eq_some_iff.1 hi).1
  obtain ⟨ad, hA, _, hc⟩ := h.1.2 (by omega)
  refine ⟨ad, hA, fun j v hv => ?_⟩
  have hadd : (ad.add (i * sz)).add j = ad.add (i * sz + j) := by
    unfold Addr.add
    by_cases h1 : i * sz = 0 <;> by_cases h2 : j = 0 <;> simp [h1, h2, Nat.add_assoc]
  rw [hadd]
  exact hc _ v (flat_at h.2 l i j x v hi hv)
theorem op_loadS {o : Oper} {t : TypeId} {x : Operand} {p : Addr} {sz bytes : Nat} {z : Value} {d : TypeDesc} {vs : List Value} (hd : P.underlying t = some d) (hd2 : isAggD d = true) (hel : Elem P t z sz bytes) (ho : o.op = .load t x)
    (hx : evO e x = some (.pointer (some p))) (hc : ∀ j v, vs[j]? = some v → w.cell? (p.add j) = some v) (hl : vs.length = sz) : OpR P N e w o (.agg ⟨vs⟩) := by
  intro q a ha
  have hr : (loadCells p sz).run P (World.dr w q) = .ok vs.toArray (World.dr w q) := by
    have := run_load_agg (P := P) (w := World.dr w q) (a := p) (cs := vs) (fun k u hu => hc k u hu)
    rwa [hl] at this
  simp only [execOp, ho, ha.eval hx, Instr.loadAt, Instr.sureAddr, loadVar, Sem.run_bind, Sem.run_pure, Result.andThen_ok, pure_bind, run_isAgg hd, hd2, hel.run_size (World.dr w q), if_true, hr]
/-! ### the least and the greatest -/
theorem op_min2 {o : Oper} {x y : Operand} {ts : Array TypeId} {k k2 : IntKind} {a b : Int} (ho : o.op = .call { callee := .builtin .min, args := #[x, y], argTypes := ts }) (hx : evO e x = some (.int k a)) (hy : evO e y = some (.int k2 b)) : OpR P N e w o (.int k (if b < a then b else a)) := by
  intro q c ha
  simp only [execOp, ho, resolve, invoke, builtin, Sem.run_bind, Sem.run_pure, Result.andThen_ok, List.map_toArray, List.map_cons, List.map_nil, ha.eval hx, ha.eval hy, run_min_int2]
theorem op_min3 {o : Oper} {x y z : Operand} {ts : Array TypeId} {k k2 k3 : IntKind} {a b c : Int} (ho : o.op = .call { callee := .builtin .min, args := #[x, y, z], argTypes := ts }) (hx : evO e x = some (.int k a)) (hy : evO e y = some (.int k2 b)) (hz : evO e z = some (.int k3 c)) : OpR P N e w o (.int k (if c < (if b < a then b else a) then c else (if b < a then b else a))) := by
  intro q m ha
  simp only [execOp, ho, resolve, invoke, builtin, Sem.run_bind, Sem.run_pure, Result.andThen_ok, List.map_toArray, List.map_cons, List.map_nil, ha.eval hx, ha.eval hy, ha.eval hz, run_min_int3]
theorem op_max2 {o : Oper} {x y : Operand} {ts : Array TypeId} {k k2 : IntKind} {a b : Int} (ho : o.op = .call { callee := .builtin .max, args := #[x, y], argTypes := ts }) (hx : evO e x = some (.int k a)) (hy : evO e y = some (.int k2 b)) : OpR P N e w o (.int k (if a < b then b else a)) := by
  intro q c ha
  simp only [execOp, ho, resolve, invoke, builtin, Sem.run_bind, Sem.run_pure, Result.andThen_ok, List.map_toArray, List.map_cons, List.map_nil, ha.eval hx, ha.eval hy, run_max_int2]
theorem op_max3 {o : Oper} {x y z : Operand} {ts : Array TypeId} {k k2 k3 : IntKind} {a b c : Int} (ho : o.op = .call { callee := .builtin .max, args := #[x, y, z], argTypes := ts }) (hx : evO e x = some (.int k a)) (hy : evO e y = some (.int k2 b)) (hz : evO e z = some (.int k3 c)) : OpR P N e w o (.int k (if (if a < b then b else a) < c then c else (if a < b then b else a))) := by
  intro q m ha
  simp only [execOp, ho, resolve, invoke, builtin, Sem.run_bind, Sem.run_pure, Result.andThen_ok, List.map_toArray, List.map_cons, List.map_nil, ha.eval hx, ha.eval hy, ha.eval hz, run_max_int3]
theorem op_quoS {o : Oper} {t yt : TypeId} {x y : Operand} {a b : Int} (ho : o.op = .binOp .quo t x y yt) (hx : evO e x = some (.int .i64 a)) (hy : evO e y = some (.int .i64 b)) (h0 : 0 ≤ a ∧ a ≤ 9223372036854775807) (hb : 1 ≤ b) : OpR P N e w o (.int .i64 (a / b)) := by
  have h := op_quov (P := P) (N := N) (w := w) ho hx hy (show b ≠ 0 by omega)
  have h1 : 0 ≤ a / b := Int.ediv_nonneg h0.1 (by omega)
  have h2 : a / b ≤ a := Int.ediv_le_self b h0.1
  rwa [Int.tdiv_eq_ediv_of_nonneg h0.1, wrap_i64 (by omega)] at h
end
end Go.Proofs.YtnomlloaahoceaaDoor


/- Our own words: what a callee has made, joined; the last pieces as one that stays. Nothing here speaks of a statement; no condition. -/
namespace Go.Proofs.YtnomlloaahoceaaDoor
open Go.RowKit
set_option linter.unusedVariables false
set_option linter.unusedSimpArgs false
theorem St.more {B : Nat} {w0 w w' : World} {L L' : List It} (h : St B w0 w L) (h2 : St w.heap.size w w' L') : St B w0 w' (L ++ L') := by
  have hb := h2.below
  have hg := h.grown hb
  refine ⟨hg.1, fun it hi => ?_, ?_⟩
  · rcases List.mem_append.1 hi with hi | hi
    · exact hg.2.1 it hi
    · have hok := h2.2.1 it hi
      have hB := h.size
      cases it with
      | row A c el sz m cs => exact Owns.mono hok hB
      | blk g t cs => exact ⟨Nat.le_trans hB hok.1, hok.2⟩
      | keep S w1 => exact fun b hb => ⟨Nat.le_trans hB (hok b hb).1, (hok b hb).2⟩
      | obj g o => exact ⟨Nat.le_trans hB hok.1, hok.2⟩
  · refine List.pairwise_append.2 ⟨hg.2.2, h2.2.2, fun x hx y hy b hbx hby => ?_⟩
    have h3 := (It.ok_lt (h.2.1 x hx) hbx).2
    have h4 := (It.ok_lt (h2.2.1 y hy) hby).1
    omega
theorem rd_of {α : Type} {enc : α → Value} {w : World} {ok : Nat → Prop} {A : Option Addr} {n : Nat} {l : List α} (h : RdE w ok enc A l) (hl : l.length = n) : Rd w ok A n 1 (l.map enc) := by subst hl; exact h
theorem rdE_of {α : Type} {enc : α → Value} {w : World} {ok : Nat → Prop} {A : Option Addr} {n : Nat} {l : List α} (h : Rd w ok A n 1 (l.map enc)) (hl : l.length = n) : RdE w ok enc A l := by subst hl; exact h
theorem St.keepRest {B : Nat} {w0 w : World} {L L2 : List It} (h : St B w0 w (L ++ L2)) : St B w0 w (L ++ [.keep (fun b => ∃ it ∈ L2, it.fp b) w]) := by
  obtain ⟨h1, h2, h3⟩ := h
  refine ⟨h1, fun it hi => ?_, ?_⟩
  · rcases List.mem_append.1 hi with hi | hi
    · exact h2 it (List.mem_append_left _ hi)
    · rw [List.mem_singleton] at hi
      subst hi
      rintro b ⟨it, hit, hb⟩
      have := It.ok_lt (h2 it (List.mem_append_right _ hit)) hb
      exact ⟨this.1, this.2, this.2, rfl⟩
  · obtain ⟨g1, g2, g3⟩ := List.pairwise_append.1 h3
    refine List.pairwise_append.2 ⟨g1, List.pairwise_singleton _ _, fun z hz k hk b hb hkb => ?_⟩
    rw [List.mem_singleton] at hk
    subst hk
    obtain ⟨it, hit, hb2⟩ := hkb
    exact g3 z hz it hit b hb hb2
theorem St.rowRd {B : Nat} {w0 w : World} {L : List It} (h : St B w0 w L) {i : Nat} {A : Option Addr} {c : Nat} {el : TypeId} {sz m : Nat} {cs : List Value} (hi : L[i]? = some (.row A c el sz m cs)) {ok : Nat → Prop} (hok : ∀ b, It.fp (.row A c el sz m cs) b → ok b) : Rd w ok A m sz cs := (Owns.rdFp (h.at hi)).weaken hok
theorem Rd.pre {w : World} {ok : Nat → Prop} {A : Option Addr} {n m : Nat} {cs ds : List Value} (h : Rd w ok A n 1 (cs ++ ds)) (hm : cs.length = m) (hn : m ≤ n) : Rd w ok A m 1 cs := by
  have := h.take hn
  rw [Nat.mul_one, List.take_left' hm] at this
  exact this
theorem keep_mem {L2 : List It} {x : It} (h : x ∈ L2) : ∀ b, x.fp b → ∃ it ∈ L2, it.fp b := fun b hb => ⟨x, h, hb⟩
theorem St.keepAll {B : Nat} {w0 w : World} {L2 : List It} (h : St B w0 w L2) : St B w0 w [.keep (fun b => ∃ it ∈ L2, it.fp b) w] := St.keepRest (L := []) h
end Go.Proofs.YtnomlloaahoceaaDoor


/- Our own words: panics, and what is put off to a function's end. Nothing here speaks of a statement; no condition. -/
namespace Go.Proofs.YtnomlloaahoceaaDoor
open Go.RowKit
set_option linter.unusedVariables false
set_option linter.unusedSimpArgs false
section
variable {P : Program} {N : Nt} {e : Env} {Q Q' : Exit → Act → World → Prop} {w w0 w' : World} {T : TyTab} {B : Nat} {L : List It}
theorem x_then_panic (K : Act → World → Prop) (Q : Exit → Act → World → Prop) (ch : List PanicEntry) : Exit.then K Q (.panic ch) = Q (.panic ch) := rfl
theorem x_block_panic (i : Nat) (Q : Exit → Act → World → Prop) (ch : List PanicEntry) : Exit.inBlock i Q (.panic ch) = Q (.panic ch) := rfl
theorem gl_callP {ops : Array Oper} {o : Oper} {rest : List Oper} {d : Nat} {f : FuncId} {xs : List Operand} {ts : Array TypeId} {vs : List Value} {fn : Func} {c : Code} {R : Ending → World → Prop}
    (hd : o.dst = some d) (hg : o.guard = none) (hN : Nat.ble (d + 1) N = true) (ho : o.op = .call { callee := .value (.func f), args := ⟨xs⟩, argTypes := ts })
    (hf : P.funcs[f]? = some fn) (hb : fn.body = some c) (hname : (fn.name == "runtime.NumGoroutine") = false) (hx : evArgs e xs = some vs) (hc : Calls P f ⟨vs⟩ w R)
    (h : ∀ en w', R en w' → (∃ v, en = .returned v ∧ GL P N ops ((d, v) :: e) rest Q w') ∨ (∃ ch, en = .panicked ch ∧ GK N e (Q (.panic ch)) w')) : GL P N ops e (o :: rest) Q w := by
  intro a ha
  refine wpList_plain hg fun K hK => ?_
  unfold Oper.wp
  rw [run_callOp ho hf hb hname hx ha w]
  refine hc.mono fun en w' hR => ?_
  rcases h en w' hR with ⟨v, rfl, hG⟩ | ⟨ch, rfl, hG⟩
  · show K (a.put o.dst v) w'
    rw [hd]
    exact hK _ _ (hG _ (ha.put (Nat.le_of_ble_eq_true hN) v))
  · exact hG a ha
theorem gk_panic {fn : Func} {R : Ending → World → Prop} {ch : List PanicEntry} (h : R (.panicked ch) w) (hds : N.ds = [] := by rfl) : GK N e (bodyPost P fn R (.panic ch)) w := fun a ha => ⟨ha.defers.trans hds, h⟩
theorem gl_panic {ops : Array Oper} {o : Oper} {rest : List Oper} {x : Operand} {t : TypeId} {v : Value} (hg : o.guard = none) (ho : o.op = .panic x) (hx : evO e x = some (.iface t v))
    (h : GK N e (Q (.panic [{ v := .iface t v, recovered := false }])) w) : GL P N ops e (o :: rest) Q w := by
  intro a ha
  refine wpList_plain hg fun K hK => ?_
  unfold Oper.wp
  have hr : (execOp a.eval o).run P w = .halt (.panic (.iface t v)) w := by
    simp only [execOp, ho, ha.eval hx]
    rfl
  rw [hr]
  exact h a ha
theorem op_mkIface {o : Oper} {t : TypeId} {x : Operand} {v : Value} {fs : Array Field} (ho : o.op = .makeInterface t x) (ht : P.underlying t = some (.struct fs)) (hx : evO e x = some v) : OpR P N e w o (.iface t v) := by
  intro n a ha
  simp only [execOp, ho, ha.eval hx, Instr.makeInterface, Sem.run_bind, run_underlying ht, Result.andThen_ok, Sem.run_pure]
theorem op_assertT {o : Oper} {x : Operand} {xt t : TypeId} {v : Value} {fs : Array Field} (ho : o.op = .typeAssert x xt t true) (ht : P.underlying t = some (.struct fs)) (hx : evO e x = some (.iface t v)) : OpR P N e w o (.tuple #[v, .bool true]) := by
  intro n a ha
  simp [execOp, ho, ha.eval hx, Instr.typeAssert, Sem.run_bind, run_underlying ht, Sem.run_pure]
theorem op_mkFunc0 {o : Oper} {f : FuncId} {xs : List Operand} {vs : List Value} (ho : o.op = .makeFunc (.func f) #[] ⟨xs⟩) (hx : evArgs e xs = some vs) : OpR P N e w o (.func (.func f) #[] ⟨vs⟩) := by
  intro n a ha
  have h1 := evArgs_map ha hx
  simp [execOp, ho, Instr.makeFunc, Sem.run_bind, Sem.run_pure, h1]
theorem gl_defer {ops : Array Oper} {o : Oper} {rest : List Oper} {t : Nat} {fv : Fn} {first cap : Array Value} (hd : o.dst = none) (hg : o.guard = none) (ho : o.op = .defer { callee := .value (.tmp t), args := #[], argTypes := #[] }) (hx : look e t = some (.func fv first cap))
    (h : GL P ⟨N.n, { target := .fn fv cap, args := first } :: N.ds⟩ ops e rest Q w) : GL P N ops e (o :: rest) Q w := by
  intro a ha
  refine wpList_plain hg fun K hK => ?_
  unfold Oper.wp
  have hv : a.eval (.tmp t) = .func fv first cap := ha.eval (x := .tmp t) hx
  have hr : (execOp a.eval o).run P w = .ok (.defer { target := .fn fv cap, args := first }) w := by
    simp [execOp, ho, resolve, hv, Deferred.ofValue, Sem.run_bind, Sem.run_pure]
  rw [hr]
  show K ({ a with defers := _ :: a.defers }.put o.dst undef) w
  rw [hd]
  exact hK _ _ (h _ ⟨by show _ :: a.defers = _ :: N.ds; rw [ha.defers], ha.size, ha.get⟩)
theorem gc_conseq {c : Code} (hq : ∀ x a w, Q' x a w → Q x a w) (h : GC P N e c Q' w) : GC P N e c Q w := fun a ha b k cs => by
  obtain ⟨x, a', w', h1, h2⟩ := h a ha b k cs
  exact ⟨x, a', w', hq _ _ _ h1, h2⟩
theorem gc_enterD {f : FuncId} {fn : Func} {c : Code} {vals : List Value} {R : Ending → World → Prop} (hf : P.funcs[f]? = some fn) (hb : fn.body = some c)
    (hN : fn.ntmps = N) (hl0 : Nat.ble vals.length N = true) (e : Env) (he : e = (List.range vals.length).zip vals) (h : GC P N e c (bodyPostD P fn R) w) (hds : N.ds = [] := by rfl) : Calls P f ⟨vals⟩ w R := by
  have hl := Nat.le_of_ble_eq_true hl0
  subst he
  refine calls_of_wp_defers hf hb (h _ ⟨hds.symm, by simp [hN]; omega, fun t v hv => ?_⟩)
  have hz : ∀ (l : List Value) (k : Nat) (t : Nat) (v : Value), look ((List.range' k l.length).zip l) t = some v → k ≤ t ∧ l[t - k]? = some v := by
    intro l
    induction l with
    | nil => intro k t v hh; simp [look] at hh
    | cons x l ih =>
      intro k t v hh
      rw [List.length_cons, List.range'_succ, List.zip_cons_cons] at hh
      rcases look_cons hh with ⟨rfl, rfl⟩ | ⟨hne, hh⟩
      · simp
      · obtain ⟨h1, h2⟩ := ih _ _ _ hh
        refine ⟨by omega, ?_⟩
        rw [show t - k = (t - (k + 1)) + 1 by omega]
        simpa using h2
  obtain ⟨_, h2⟩ := hz vals 0 t v (by rwa [← List.range_eq_range'])
  have hlt : t < vals.length := by
    rcases Nat.lt_or_ge t vals.length with h | h
    · exact h
    · rw [Nat.sub_zero, List.getElem?_eq_none h] at h2; cases h2
  simp only [Nat.sub_zero] at h2
  rw [Array.getElem?_append_left (by simpa using hlt)]
  simpa using h2
theorem St.moveIn {x : It} (h : St B w0 w (L ++ [x])) (k : Nat) : St B w0 w (L.take k ++ x :: L.drop k) := by
  have hp : (L ++ [x]).Perm (L.take k ++ x :: L.drop k) := by
    have h1 : L ++ [x] = L.take k ++ (L.drop k ++ [x]) := by rw [← List.append_assoc, List.take_append_drop]
    rw [h1]
    exact List.Perm.append_left _ List.perm_append_comm
  exact ⟨h.1, fun it hi => h.2.1 it (hp.mem_iff.2 hi), hp.pairwise h.2.2 fun {x y} hxy b hb hb2 => hxy b hb2 hb⟩
end
end Go.Proofs.YtnomlloaahoceaaDoor


/- The seat's types, as a table, and that the program's are these. No condition. -/
namespace Go.Proofs.YtnomlloaahoceaaDoor
def T : TyTab := [(2, .int .i64), (3, .int .i64), (4, .bool), (5, .int .u8), (6, .int .u8), (9, .string), (10, .string), (11, .string), (12, .int .u64), (15, .pointer 175), (16, .pointer 178), (17, .pointer 186), (21, .int .i32), (22, .slice 62), (23, .slice 22), (26, .slice 77), (27, .slice 26), (31, .slice 5), (34, .int .i64), (52, .pointer 54), (62, .float .f64), (63, .slice 102), (66, .slice 65), (67, .slice 9), (77, .int .u64), (85, .int .u32), (87, .slice 31), (88, .slice 3), (93, .int .u64), (97, .slice 100), (99, .pointer 65), (100, .pointer 3), (102, .complex .f64), (105, .pointer 108), (106, .slice 61), (114, .pointer 116), (124, .array 16 85), (159, .map 9 3), (165, .array 8 164), (168, .array 8 3), (169, .array 256 5), (172, .array 16 171), (176, .array 0 16), (179, .int .u8), (180, .int .u8), (182, .pointer 5), (183, .int .i32), (184, .int .i32)]
theorem el3 : Elem Tryd.prog 3 (.int .i64 0) 1 8 := Elem.of (by kernel_rfl) rfl (by decide)
theorem el5 : Elem Tryd.prog 5 (.int .u8 0) 1 1 := Elem.of (by kernel_rfl) rfl (by decide)
theorem el22 : Elem Tryd.prog 22 (.slice none 0 0) 1 24 := Elem.of (by kernel_rfl) rfl (by decide)
theorem el23 : Elem Tryd.prog 23 (.slice none 0 0) 1 24 := Elem.of (by kernel_rfl) rfl (by decide)
theorem el25 : Elem Tryd.prog 25 (.agg #[.slice none 0 0, .slice none 0 0, .int .i64 0, .slice none 0 0, .int .i64 0, .int .i64 0, .int .i64 0]) 7 104 := Elem.of (by kernel_rfl) rfl (by decide)
theorem el26 : Elem Tryd.prog 26 (.slice none 0 0) 1 24 := Elem.of (by kernel_rfl) rfl (by decide)
theorem el27 : Elem Tryd.prog 27 (.slice none 0 0) 1 24 := Elem.of (by kernel_rfl) rfl (by decide)
theorem el29 : Elem Tryd.prog 29 (.agg #[.slice none 0 0, .slice none 0 0, .int .i64 0, .slice none 0 0, .int .i64 0, .int .i64 0, .int .i64 0]) 7 104 := Elem.of (by kernel_rfl) rfl (by decide)
theorem el31 : Elem Tryd.prog 31 (.slice none 0 0) 1 24 := Elem.of (by kernel_rfl) rfl (by decide)
theorem el34 : Elem Tryd.prog 34 (.int .i64 0) 1 8 := Elem.of (by kernel_rfl) rfl (by decide)
theorem el54 : Elem Tryd.prog 54 (.agg #[.slice none 0 0, .int .i64 0]) 2 32 := Elem.of (by kernel_rfl) rfl (by decide)
theorem el61 : Elem Tryd.prog 61 (.agg #[.int .i64 0, .int .i64 0, .int .i64 0]) 3 24 := Elem.of (by kernel_rfl) rfl (by decide)
theorem el62 : Elem Tryd.prog 62 (.float .f64 0) 1 8 := Elem.of (by kernel_rfl) rfl (by decide)
theorem el63 : Elem Tryd.prog 63 (.slice none 0 0) 1 24 := Elem.of (by kernel_rfl) rfl (by decide)
theorem el65 : Elem Tryd.prog 65 (.agg #[.int .i64 0, .int .i64 0, .int .i64 0, .int .i64 0, .int .i64 0, .int .i64 0, .int .i64 0, .int .i64 0, .int .i64 0, .float .f64 0, .slice none 0 0, .slice none 0 0, .slice none 0 0, .slice none 0 0]) 14 176 := Elem.of (by kernel_rfl) rfl (by decide)
theorem el66 : Elem Tryd.prog 66 (.slice none 0 0) 1 24 := Elem.of (by kernel_rfl) rfl (by decide)
theorem el67 : Elem Tryd.prog 67 (.slice none 0 0) 1 24 := Elem.of (by kernel_rfl) rfl (by decide)
theorem el69 : Elem Tryd.prog 69 (.agg #[.int .i64 0, .int .i64 0, .int .i64 0, .slice none 0 0, .slice none 0 0]) 5 72 := Elem.of (by kernel_rfl) rfl (by decide)
theorem el77 : Elem Tryd.prog 77 (.int .u64 0) 1 8 := Elem.of (by kernel_rfl) rfl (by decide)
theorem el85 : Elem Tryd.prog 85 (.int .u32 0) 1 4 := Elem.of (by kernel_rfl) rfl (by decide)
theorem el102 : Elem Tryd.prog 102 (.complex .f64 0 0) 1 16 := Elem.of (by kernel_rfl) rfl (by decide)
theorem el106 : Elem Tryd.prog 106 (.slice none 0 0) 1 24 := Elem.of (by kernel_rfl) rfl (by decide)
theorem el124 : Elem Tryd.prog 124 (.agg #[.int .u32 0, .int .u32 0, .int .u32 0, .int .u32 0, .int .u32 0, .int .u32 0, .int .u32 0, .int .u32 0, .int .u32 0, .int .u32 0, .int .u32 0, .int .u32 0, .int .u32 0, .int .u32 0, .int .u32 0, .int .u32 0]) 16 64 := Elem.of (by kernel_rfl) rfl (by decide)
theorem el130 : Elem Tryd.prog 130 (.agg #[.int .i64 0, .int .i64 0]) 2 16 := Elem.of (by kernel_rfl) rfl (by decide)
theorem el164 : Elem Tryd.prog 164 (.agg #[.int .i64 0, .int .i64 0]) 2 16 := Elem.of (by kernel_rfl) rfl (by decide)
theorem el165 : Elem Tryd.prog 165 (.agg #[.int .i64 0, .int .i64 0, .int .i64 0, .int .i64 0, .int .i64 0, .int .i64 0, .int .i64 0, .int .i64 0, .int .i64 0, .int .i64 0, .int .i64 0, .int .i64 0, .int .i64 0, .int .i64 0, .int .i64 0, .int .i64 0]) 16 128 := Elem.of (by kernel_rfl) rfl (by decide)
theorem hT : TabOk Tryd.prog T := ⟨Tryd.underlying2, Tryd.underlying3, Tryd.underlying4, Tryd.underlying5, Tryd.underlying6, Tryd.underlying9, Tryd.underlying10, Tryd.underlying11, Tryd.underlying12, Tryd.underlying15, Tryd.underlying16, Tryd.underlying17, Tryd.underlying21, Tryd.underlying22, Tryd.underlying23, Tryd.underlying26, Tryd.underlying27, Tryd.underlying31, Tryd.underlying34, Tryd.underlying52, Tryd.underlying62, Tryd.underlying63, Tryd.underlying66, Tryd.underlying67, Tryd.underlying77, Tryd.underlying85, Tryd.underlying87, Tryd.underlying88, Tryd.underlying93, Tryd.underlying97, Tryd.underlying99, Tryd.underlying100, Tryd.underlying102, Tryd.underlying105, Tryd.underlying106, Tryd.underlying114, Tryd.underlying124, Tryd.underlying159, Tryd.underlying165, Tryd.underlying168, Tryd.underlying169, Tryd.underlying172, Tryd.underlying176, Tryd.underlying179, Tryd.underlying180, Tryd.underlying182, Tryd.underlying183, Tryd.underlying184, trivial⟩
end Go.Proofs.YtnomlloaahoceaaDoor

