/- Contracts of functions that CodeNetBytes reaches, and words to say them. No condition. -/
import Derived.Test.YtnomlloaahoceaaGreatDoorZ02
import Derived.Laws.Tables
import Derived.Laws.Small
import Derived.Laws.Cover1
import Derived.Test.YtnomlloaahoceaaGreatDoorZ01
import Derived.Test.YtnomlloaahoceaaGreatDoorProg
/- Our own words: structs in variables and in slices. Nothing here speaks of a statement; no condition. -/
namespace Go.Proofs.YtnomlloaahoceaaGreatDoor
open Go.RowKit
set_option linter.unusedVariables false
set_option linter.unusedSimpArgs false
section
variable {P : Program} {N : Nt} {e : Env} {Q : Exit → Act → World → Prop} {w w0 w' : World} {T : TyTab} {B : Nat} {L : List It}
theorem addB (g k j : Nat) : (⟨g, k, none⟩ : Addr).add j = ⟨g, k + j, none⟩ := by
  unfold Addr.add; split
  · rename_i h; subst h; rfl
  · rfl
theorem op_fieldB {o : Oper} {s : TypeId} {x : Operand} {k : Nat} {fields : Array Field} {f : Field} {g k0 : Nat} {z : Value} {sz bytes : Nat} (j : Nat) (ho : o.op = .fieldAddr s x k) (hs : P.underlying s = some (.struct fields)) (hf : fields[k]? = some f) (hel : Elem P f.type z sz bytes)
    (hx : evO e x = some (.pointer (some ⟨g, k0, none⟩))) (hj : k0 + f.offset = j) : OpR P N e w o (.pointer (some ⟨g, j, none⟩)) := by
  have := op_fieldAddr (N := N) (w := w) ho hs hf hel hel.pos hx
  rwa [addB, hj] at this
theorem run_loadVarB {t bt : TypeId} {g j sz bytes : Nat} {z : Value} {d : TypeDesc} {cs vs : List Value} (i : Nat) (hd : P.underlying t = some d) (hd2 : isAggD d = true) (hel : Elem P t z sz bytes) (hS : St B w0 w L) (hi : L[i]? = some (.blk g bt cs))
    (hv : (cs.drop j).take sz = vs) (hl : vs.length = sz) : (loadVar t ⟨g, j, none⟩).run P w = .ok (.agg ⟨vs⟩) w := by
  have hadd : ∀ k, (⟨g, j, none⟩ : Addr).add k = ⟨g, j + k, none⟩ := addB g j
  have hr : (loadCells ⟨g, j, none⟩ sz).run P w = .ok vs.toArray w := by
    have := run_load_agg (P := P) (w := w) (a := ⟨g, j, none⟩) (cs := vs) (fun k u hu => by
      rw [hadd]
      rw [← hv, List.getElem?_take] at hu
      split at hu
      · rw [List.getElem?_drop] at hu
        exact (hS.cell hi (j + k)).trans hu
      · cases hu)
    rwa [hl] at this
  simp only [loadVar, Sem.run_bind, run_isAgg hd, hd2, Result.andThen_ok, hel.run_size w, if_true, hr, Sem.run_pure]
theorem op_loadG {o : Oper} {t bt : TypeId} {x : Operand} {g j sz bytes : Nat} {z : Value} {d : TypeDesc} {cs vs : List Value} (i : Nat) (hd : P.underlying t = some d) (hd2 : isAggD d = true) (hel : Elem P t z sz bytes) (hS : St B w0 w L) (ho : o.op = .load t x)
    (hx : evO e x = some (.pointer (some ⟨g, j, none⟩))) (hi : L[i]? = some (.blk g bt cs)) (hv : (cs.drop j).take sz = vs) (hl : vs.length = sz) : OpR P N e w o (.agg ⟨vs⟩) := by
  intro q a ha
  have h1 := run_loadVarB (P := P) i hd hd2 hel (hS.dr q) hi hv hl
  simp only [execOp, ho, ha.eval hx, Instr.loadAt, Instr.sureAddr, Sem.run_bind, Sem.run_pure, Result.andThen_ok, pure_bind, h1]
/-! ### results -/
def resV (P : Program) (w : World) (e : Env) : ResultVar → Value → Prop
  | .tmp t, v => look e t = some v
  | .cell a t, v => ∃ p, look e a = some (.pointer (some p)) ∧ (loadVar t p).run P w = .ok v w
def resR (tmps : Array Value) : ResultVar → Sem Value
  | .tmp t => pure (tmps.getD t undef)
  | .cell a t => do loadVar t (← asAddr (tmps.getD a undef))
theorem run_resR {a : Act} (ha : Fr N a e) {r : ResultVar} {v : Value} (h : resV P w e r v) : (resR a.tmps r).run P w = .ok v w := by
  cases r with
  | tmp t => simp [resR, getD_of ha h]
  | cell t ty =>
    obtain ⟨p, h1, h2⟩ := h
    simp [resR, getD_of ha h1, asAddr, h2]
theorem results_eq (fn : Func) (tmps : Array Value) : results fn tmps = (do let vs ← fn.results.mapM (resR tmps); pure (if h : vs.size = 1 then vs[0] else .tuple vs)) := by
  unfold results
  congr 1
theorem gk_res1 {fn : Func} {R : Ending → World → Prop} {r1 : ResultVar} {v1 : Value} (hr : fn.results = #[r1]) (h1 : resV P w e r1 v1) (h : R (.returned v1) w) (hds : N.ds = [] := by rfl) : GK N e (bodyPost P fn R .ret) w := fun a ha =>
  ⟨ha.defers.trans hds, _, by rw [results_eq, hr]; simp [run_resR ha h1], h⟩
theorem gk_res2 {fn : Func} {R : Ending → World → Prop} {r1 r2 : ResultVar} {v1 v2 : Value} (hr : fn.results = #[r1, r2]) (h1 : resV P w e r1 v1) (h2 : resV P w e r2 v2) (h : R (.returned (.tuple #[v1, v2])) w) (hds : N.ds = [] := by rfl) : GK N e (bodyPost P fn R .ret) w := fun a ha =>
  ⟨ha.defers.trans hds, _, by rw [results_eq, hr]; simp [run_resR ha h1, run_resR ha h2], h⟩
theorem gk_res3 {fn : Func} {R : Ending → World → Prop} {r1 r2 r3 : ResultVar} {v1 v2 v3 : Value} (hr : fn.results = #[r1, r2, r3]) (h1 : resV P w e r1 v1) (h2 : resV P w e r2 v2) (h3 : resV P w e r3 v3) (h : R (.returned (.tuple #[v1, v2, v3])) w) (hds : N.ds = [] := by rfl) : GK N e (bodyPost P fn R .ret) w := fun a ha =>
  ⟨ha.defers.trans hds, _, by rw [results_eq, hr]; simp [run_resR ha h1, run_resR ha h2, run_resR ha h3], h⟩
theorem run_loadVar1 {t bt : TypeId} {g j : Nat} {d : TypeDesc} {cs : List Value} {v : Value} (i : Nat) (hT : TabOk P T) (hS : St B w0 w L) (ht : tlook T t = some d) (hd : isAggD d = false) (hi : L[i]? = some (.blk g bt cs)) (hv : cs[j]? = some v) : (loadVar t ⟨g, j, none⟩).run P w = .ok v w := by
  have hc := (hS.cell hi j).trans hv
  simp only [loadVar, Sem.run_bind, run_isAgg (hT.at ht), hd, Result.andThen_ok]
  simp [load, Sem.run, hc]
theorem gk_ret5 {fn : Func} {R : Ending → World → Prop} {t1 t2 t3 t4 t5 : Nat} {v1 v2 v3 v4 v5 : Value} (hr : fn.results = #[.tmp t1, .tmp t2, .tmp t3, .tmp t4, .tmp t5]) (h1 : look e t1 = some v1) (h2 : look e t2 = some v2)
    (h3 : look e t3 = some v3) (h4 : look e t4 = some v4) (h5 : look e t5 = some v5) (h : R (.returned (.tuple #[v1, v2, v3, v4, v5])) w) (hds : N.ds = [] := by rfl) : GK N e (bodyPost P fn R .ret) w := fun a ha =>
  ⟨ha.defers.trans hds, .tuple #[v1, v2, v3, v4, v5], by simp [results, hr, ha.get _ _ h1, ha.get _ _ h2, ha.get _ _ h3, ha.get _ _ h4, ha.get _ _ h5], h⟩
/-! ### building -/
def cellsL (v : Value) : List Value := v.cells.toList
def putL (zs : List Value) (off : Nat) : List Value → List Value
  | [c] => zs.set off c
  | cs => zs.take off ++ cs ++ zs.drop (off + cs.length)
theorem putL_eq (zs : List Value) (off : Nat) (cs : List Value) (h : off + cs.length ≤ zs.length) : putL zs off cs = zs.take off ++ cs ++ zs.drop (off + cs.length) := by
  match cs, h with
  | [], _ => rfl
  | [c], h =>
    simp only [List.length_singleton] at h ⊢
    show zs.set off c = _
    rw [List.set_eq_take_append_cons_drop, if_pos (by omega)]; simp
  | _ :: _ :: _, _ => rfl
def fillL (pl : List (Nat × Nat)) : List Value → List (Nat × Value) → Option (List Value)
  | zs, [] => some zs
  | zs, (i, v) :: r => match pl[i]? with
    | none => none
    | some (off, size) => bif Nat.beq (cellsL v).length size && Nat.ble (off + size) zs.length then fillL pl (putL zs off (cellsL v)) r else none
theorem fold_set : ∀ (cs : List Value) (k off : Nat) (zs : List Value), off + k + cs.length ≤ zs.length →
    (cs.zipIdx k).foldl (fun (acc : Array Value) (p : Value × Nat) => acc.setIfInBounds (off + p.2) p.1) ⟨zs⟩ = ⟨zs.take (off + k) ++ cs ++ zs.drop (off + k + cs.length)⟩
  | [], k, off, zs, h => by simp
  | c :: cs, k, off, zs, h => by
    simp only [List.length_cons] at h
    rw [List.zipIdx_cons, List.foldl_cons]
    have e1 : (⟨zs⟩ : Array Value).setIfInBounds (off + k) c = ⟨zs.set (off + k) c⟩ := by simp
    rw [e1, fold_set cs (k + 1) off _ (by simp; omega)]
    congr 1
    have e2 : (zs.set (off + k) c).take (off + (k + 1)) = zs.take (off + k) ++ [c] := by
      apply List.ext_getElem?
      intro j
      rw [List.getElem?_take, List.getElem?_set, List.getElem?_append, List.length_take, List.getElem?_take]
      have hm : min (off + k) zs.length = off + k := by omega
      rw [hm]
      by_cases h1 : j < off + k
      · rw [if_pos (by omega), if_neg (by omega), if_pos h1, if_pos h1]
      · by_cases h2 : j = off + k
        · subst h2
          rw [if_pos (by omega), if_pos rfl, if_pos (by omega), if_neg (by omega)]; simp
        · rw [if_neg (by omega), if_neg (by omega), List.getElem?_eq_none (by simp; omega)]
    have e3 : (zs.set (off + k) c).drop (off + (k + 1) + cs.length) = zs.drop (off + k + (cs.length + 1)) := by
      rw [List.drop_set_of_lt (by omega)]; congr 1; omega
    rw [e2, e3, List.length_cons]
    simp
theorem fill_of_L {place : Nat → Option (Nat × Nat)} {pl : List (Nat × Nat)} (hp : ∀ i p, pl[i]? = some p → place i = some p) : ∀ (ps : List (Nat × Value)) (zs cs : List Value), fillL pl zs ps = some cs → Instr.fill place ⟨zs⟩ ps = some ⟨cs⟩
  | [], zs, cs, h => by simp [fillL] at h; subst h; rfl
  | (i, v) :: r, zs, cs, h => by
    unfold fillL at h
    cases hi : pl[i]? with
    | none => rw [hi] at h; cases h
    | some p =>
      obtain ⟨off, size⟩ := p
      rw [hi] at h
      simp only at h
      cases hb : (Nat.beq (cellsL v).length size && Nat.ble (off + size) zs.length) with
      | false => rw [hb] at h; cases h
      | true =>
        rw [hb] at h
        simp only [cond_true] at h
        simp only [Bool.and_eq_true, Nat.beq_eq, Nat.ble_eq] at hb
        have hl : v.cells.size = size := by rw [← hb.1]; simp [cellsL]
        unfold Instr.fill
        rw [hp i _ hi]
        simp only
        have hc : ¬ ((decide (v.cells.size ≠ size) || decide (off + v.cells.size > (⟨zs⟩ : Array Value).size)) = true) := by simp [hl]; omega
        rw [if_neg hc]
        have hf := fold_set v.cells.toList 0 off zs (by rw [Array.length_toList, hl]; omega)
        have e1 : v.cells.zipIdx.foldl (fun (acc : Array Value) (p : Value × Nat) => acc.setIfInBounds (off + p.2) p.1) (⟨zs⟩ : Array Value) = ⟨zs.take off ++ cellsL v ++ zs.drop (off + size)⟩ := by
          rw [← Array.foldl_toList, Array.toList_zipIdx, hf]
          simp only [Nat.add_zero, Array.length_toList, hl, cellsL]
        have e2 : v.cells.zipIdx.foldl (fun (cs : Array Value) (x : Value × Nat) => match x with | (c, j) => cs.setIfInBounds (off + j) c) (⟨zs⟩ : Array Value) = ⟨zs.take off ++ cellsL v ++ zs.drop (off + size)⟩ := e1
        rw [e2]
        rw [putL_eq zs off (cellsL v) (by omega), hb.1] at h
        exact fill_of_L hp r _ cs h
def plan (P : Program) (t : TypeId) : Option (List Value × List (Nat × Nat)) :=
  match P.info? t, P.underlying t with
  | some it, some (.array n e) => match it.zero, P.info? e with
    | some z, some ie => some (z.cells.toList, (List.range n).map fun i => (i * ie.size, ie.size))
    | _, _ => none
  | some it, some (.struct fields) => match it.zero, fields.toList.mapM (fun f => (P.info? f.type).map fun i => (f.offset, i.size)) with
    | some z, some places => some (z.cells.toList, places)
    | _, _ => none
  | _, _ => none
theorem built_of_plan {t : TypeId} {zs : List Value} {pl : List (Nat × Nat)} (h : plan P t = some (zs, pl)) {ps : List (Nat × Value)} {cs : List Value} (hf : fillL pl zs ps = some cs) : P.built t ps = some ⟨cs⟩ := by
  unfold plan at h
  unfold Program.built
  cases hit : P.info? t with
  | none => simp [hit] at h
  | some it =>
    cases hu : P.underlying t with
    | none => simp [hit, hu] at h
    | some d =>
      cases hz : it.zero with
      | none => cases d <;> simp [hit, hu, hz] at h
      | some z =>
        cases d <;> try (simp [hit, hu] at h; done)
        case array n e =>
          cases hie : P.info? e with
          | none => simp [hit, hu, hz, hie] at h
          | some ie =>
            simp only [hit, hu, hz, hie, Option.some.injEq, Prod.mk.injEq] at h
            obtain ⟨rfl, rfl⟩ := h
            simp only [hie, hz]
            refine fill_of_L (fun i p hp => ?_) ps z.cells.toList cs hf
            rw [List.getElem?_map] at hp
            cases hr : (List.range n)[i]? with
            | none => rw [hr] at hp; cases hp
            | some k =>
              rw [hr] at hp
              obtain ⟨hlt, hk⟩ := List.getElem?_eq_some_iff.1 hr
              simp at hk
              subst hk
              simpa using hp
        case struct fields =>
          cases hp : fields.toList.mapM (fun f => (P.info? f.type).map fun i => (f.offset, i.size)) with
          | none => simp [hit, hu, hz, hp] at h
          | some places =>
            simp only [hit, hu, hz, hp, Option.some.injEq, Prod.mk.injEq] at h
            obtain ⟨rfl, rfl⟩ := h
            simp only [hp, hz]
            exact fill_of_L (fun i p hp => by simpa using hp) ps z.cells.toList cs hf
def evPs (e : Env) : List (Nat × Operand) → Option (List (Nat × Value))
  | [] => some []
  | (i, x) :: r => match evO e x, evPs e r with
    | some v, some l => some ((i, v) :: l)
    | _, _ => none
theorem evPs_map {a : Act} (ha : Fr N a e) : ∀ {ps : List (Nat × Operand)} {l : List (Nat × Value)}, evPs e ps = some l → (ps.map fun (i, x) => (i, a.eval x)) = l
  | [], l, h => by simp [evPs] at h; simp [h]
  | (i, x) :: r, l, h => by
    unfold evPs at h
    split at h
    · rename_i v l' hx hr
      simp only [Option.some.injEq] at h
      subst h
      simp [ha.eval hx, evPs_map ha hr]
    · cases h
theorem op_buildG {o : Oper} {t : TypeId} {ps : List (Nat × Operand)} {zs cs : List Value} {pl : List (Nat × Nat)} {ivs : List (Nat × Value)} (ho : o.op = .build t ⟨ps⟩) (hp : plan P t = some (zs, pl)) (hv : evPs e ps = some ivs) (hf : fillL pl zs ivs = some cs) : OpR P N e w o (.agg ⟨cs⟩) := by
  intro q a ha
  have h1 := run_build (P := P) (World.dr w q) t ⟨ivs⟩ ⟨cs⟩ (built_of_plan hp hf)
  have hpm : Array.map (fun (x : Nat × Operand) => (x.1, a.eval x.2)) ⟨ps⟩ = ⟨ivs⟩ := by
    have := evPs_map ha hv
    apply Array.toList_inj.1
    simpa using this
  simp only [execOp, ho, hpm, Sem.run_bind, h1, Result.andThen_ok, Sem.run_pure]
/-! ### stores of many cells -/
def spliceL (cs : List Value) (j : Nat) (vs : List Value) : List Value := cs.take j ++ vs ++ cs.drop (j + vs.length)
theorem gl_storeM {ops : Array Oper} {o : Oper} {rest : List Oper} {t bt : TypeId} {x y : Operand} {g j : Nat} {vs cs : List Value} {z : Value} {sz bytes : Nat} (i : Nat) (hS : St B w0 w L) (hel : Elem P t z sz bytes)
    (hd : o.dst = none) (hg : o.guard = none) (ho : o.op = .store t x y) (hx : evO e x = some (.pointer (some ⟨g, j, none⟩))) (hy : evO e y = some (.agg ⟨vs⟩)) (hi : L[i]? = some (.blk g bt cs)) (hl : vs.length = sz) (hc : Nat.ble (j + sz) cs.length = true) (h1 : allOne vs = true)
    (h : ∀ w', St B w0 w' (L.set i (.blk g bt (spliceL cs j vs))) → GL P N ops e rest Q w') : GL P N ops e (o :: rest) Q w := by
  have hb := hS.at hi
  have hc' := Nat.le_of_ble_eq_true hc
  refine gl_act (w' := w.setRow g ⟨spliceL cs j vs⟩) hd hg (fun a ha => ?_) (h _ (hS.update hi rfl rfl rfl (by simp) (fun b _ hf => setRow_other w g b _ hf) ⟨hb.1, setRow_heap w g _ _ _ _ hb.2⟩ (fun b hb => .inl hb)))
  have hst := run_storeCells_at (P := P) g j bt vs 0 ⟨cs⟩ w hb.2 (by simp; omega) (fun v hv => oneCell'_of (allOne_mem h1 v hv))
  have hst2 : (storeCells ⟨g, j, none⟩ vs).run P w = .ok () (w.setRow g ⟨spliceL cs j vs⟩) := by
    have e3 : ((⟨cs⟩ : Array Value).toList.take (j + 0) ++ vs ++ (⟨cs⟩ : Array Value).toList.drop (j + 0 + vs.length)).toArray = ⟨spliceL cs j vs⟩ := by simp [spliceL]
    rw [e3] at hst
    exact hst
  simp only [execOp, ho, ha.eval hx, ha.eval hy, Instr.storeAt, Instr.sureAddr, storeVar, Sem.run_bind, Sem.run_pure, Result.andThen_ok, pure_bind, Value.cells, hel.run_size w, List.size_toArray, hl, ne_eq, not_true_eq_false, if_false, hst2]
/-! ### elements of several cells -/
def RdS {α : Type} (w : World) (ok : Nat → Prop) (enc : α → List Value) (sz : Nat) (A : Option Addr) (l : List α) : Prop := Rd w ok A l.length sz (l.map enc).flatten ∧ ∀ x, (enc x).length = sz
theorem flat_at {α : Type} {enc : α → List Value} {sz : Nat} (hz : ∀ x, (enc x).length = sz) : ∀ (l : List α) (i j : Nat) (x : α) (v : Value), l[i]? = some x → (enc x)[j]? = some v → (l.map enc).flatten[i * sz + j]? = some v
  | [], i, j, x, v, h, _ => by simp at h
  | y :: l, 0, j, x, v, h, hv => by
    simp at h; subst h
    have := (List.getElem?_eq_some_iff.1 hv).1
    rw [List.map_cons, List.flatten_cons, Nat.zero_mul, Nat.zero_add, List.getElem?_append_left this]; exact hv
  | y :: l, i + 1, j, x, v, h, hv => by
    rw [List.map_cons, List.flatten_cons, List.getElem?_append_right (by rw [hz, Nat.add_mul]; omega), hz, show (i + 1) * sz + j - sz = i * sz + j by rw [Nat.add_mul]; omega]
    exact flat_at hz l i j x v (by simpa using h) hv
theorem RdS.at {α : Type} {ok : Nat → Prop} {enc : α → List Value} {sz : Nat} {A : Option Addr} {l : List α} (h : RdS w ok enc sz A l) {i : Nat} {x : α} (hi : l[i]? = some x) :
    ∃ ad, A = some ad ∧ ∀ j v, (enc x)[j]? = some v → w.cell? ((ad.add (i * sz)).add j) = some v := by
  have hlt := (List.getElem?_eq_some_iff.1 hi).1
  obtain ⟨ad, hA, _, hc⟩ := h.1.2 (by omega)
  refine ⟨ad, hA, fun j v hv => ?_⟩
  have hadd : (ad.add (i * sz)).add j = ad.add (i * sz + j) := by
    unfold Addr.add
    by_cases h1 : i * sz = 0 <;> by_cases h2 : j = 0 <;> simp [h1, h2, Nat.add_assoc]
  rw [hadd]
  exact hc _ v (flat_at h.2 l i j x v hi hv)
theorem op_loadS {o : Oper} {t : TypeId} {x : Operand} {p : Addr} {sz bytes : Nat} {z : Value} {d : TypeDesc} {vs : List Value} (hd : P.underlying t = some d) (hd2 : isAggD d = true) (hel : Elem P t z sz bytes) (ho : o.op = .load t x)
    (hx : evO e x = some (.pointer (some p))) (hc : ∀ j v, vs[j]? = some v → w.cell? (p.add j) = some v) (hl : vs.length = sz) : OpR P N e w o (.agg ⟨vs⟩) := by
  intro q a ha
  have hr : (loadCells p sz).run P (World.dr w q) = .ok vs.toArray (World.dr w q) := by
    have := run_load_agg (P := P) (w := World.dr w q) (a := p) (cs := vs) (fun k u hu => hc k u hu)
    rwa [hl] at this
  simp only [execOp, ho, ha.eval hx, Instr.loadAt, Instr.sureAddr, loadVar, Sem.run_bind, Sem.run_pure, Result.andThen_ok, pure_bind, run_isAgg hd, hd2, hel.run_size (World.dr w q), if_true, hr]
/-! ### the least and the greatest -/
theorem op_min2 {o : Oper} {x y : Operand} {ts : Array TypeId} {k k2 : IntKind} {a b : Int} (ho : o.op = .call { callee := .builtin .min, args := #[x, y], argTypes := ts }) (hx : evO e x = some (.int k a)) (hy : evO e y = some (.int k2 b)) : OpR P N e w o (.int k (if b < a then b else a)) := by
  intro q c ha
  simp only [execOp, ho, resolve, invoke, builtin, Sem.run_bind, Sem.run_pure, Result.andThen_ok, List.map_toArray, List.map_cons, List.map_nil, ha.eval hx, ha.eval hy, run_min_int2]
theorem op_min3 {o : Oper} {x y z : Operand} {ts : Array TypeId} {k k2 k3 : IntKind} {a b c : Int} (ho : o.op = .call { callee := .builtin .min, args := #[x, y, z], argTypes := ts }) (hx : evO e x = some (.int k a)) (hy : evO e y = some (.int k2 b)) (hz : evO e z = some (.int k3 c)) : OpR P N e w o (.int k (if c < (if b < a then b else a) then c else (if b < a then b else a))) := by
  intro q m ha
  simp only [execOp, ho, resolve, invoke, builtin, Sem.run_bind, Sem.run_pure, Result.andThen_ok, List.map_toArray, List.map_cons, List.map_nil, ha.eval hx, ha.eval hy, ha.eval hz, run_min_int3]
theorem op_max2 {o : Oper} {x y : Operand} {ts : Array TypeId} {k k2 : IntKind} {a b : Int} (ho : o.op = .call { callee := .builtin .max, args := #[x, y], argTypes := ts }) (hx : evO e x = some (.int k a)) (hy : evO e y = some (.int k2 b)) : OpR P N e w o (.int k (if a < b then b else a)) := by
  intro q c ha
  simp only [execOp, ho, resolve, invoke, builtin, Sem.run_bind, Sem.run_pure, Result.andThen_ok, List.map_toArray, List.map_cons, List.map_nil, ha.eval hx, ha.eval hy, run_max_int2]
theorem op_max3 {o : Oper} {x y z : Operand} {ts : Array TypeId} {k k2 k3 : IntKind} {a b c : Int} (ho : o.op = .call { callee := .builtin .max, args := #[x, y, z], argTypes := ts }) (hx : evO e x = some (.int k a)) (hy : evO e y = some (.int k2 b)) (hz : evO e z = some (.int k3 c)) : OpR P N e w o (.int k (if (if a < b then b else a) < c then c else (if a < b then b else a))) := by
  intro q m ha
  simp only [execOp, ho, resolve, invoke, builtin, Sem.run_bind, Sem.run_pure, Result.andThen_ok, List.map_toArray, List.map_cons, List.map_nil, ha.eval hx, ha.eval hy, ha.eval hz, run_max_int3]
theorem op_quoS {o : Oper} {t yt : TypeId} {x y : Operand} {a b : Int} (ho : o.op = .binOp .quo t x y yt) (hx : evO e x = some (.int .i64 a)) (hy : evO e y = some (.int .i64 b)) (h0 : 0 ≤ a ∧ a ≤ 9223372036854775807) (hb : 1 ≤ b) : OpR P N e w o (.int .i64 (a / b)) := by
  have h := op_quov (P := P) (N := N) (w := w) ho hx hy (show b ≠ 0 by omega)
  have h1 : 0 ≤ a / b := Int.ediv_nonneg h0.1 (by omega)
  have h2 : a / b ≤ a := Int.ediv_le_self b h0.1
  rwa [Int.tdiv_eq_ediv_of_nonneg h0.1, wrap_i64 (by omega)] at h
theorem op_remS {o : Oper} {t yt : TypeId} {x y : Operand} {k : IntKind} {a b : Int} (ho : o.op = .binOp .rem t x y yt) (hx : evO e x = some (.int k a)) (hy : evO e y = some (.int k b)) (h0 : 0 ≤ a) (hb : 1 ≤ b) : OpR P N e w o (.int k (a % b)) := by
  have h := op_remv (P := P) (N := N) (w := w) ho hx hy (show b ≠ 0 by omega)
  rwa [Int.tmod_eq_emod_of_nonneg h0] at h
end
end Go.Proofs.YtnomlloaahoceaaGreatDoor

/- The seat's types, as a table, and that the program's are these. No condition. -/
namespace Go.Proofs.YtnomlloaahoceaaGreatDoor
def T : TyTab := [(2, .int .i64), (3, .int .i64), (4, .bool), (5, .int .u8), (6, .int .u8), (9, .string), (10, .string), (11, .string), (12, .int .u64), (15, .pointer 207), (16, .pointer 210), (17, .pointer 218), (21, .int .i32), (22, .slice 5), (28, .slice 48), (29, .slice 9), (32, .int .i64), (35, .slice 81), (44, .float .f64), (45, .slice 44), (46, .slice 98), (51, .slice 45), (59, .pointer 64), (62, .slice 27), (70, .pointer 72), (77, .int .u64), (78, .slice 77), (79, .slice 136), (90, .pointer 61), (92, .slice 95), (94, .pointer 48), (95, .pointer 3), (98, .complex .f64), (117, .array 8 4), (120, .array 8 3), (122, .array 4 3), (129, .array 9 3), (136, .array 2 77), (139, .slice 3), (144, .int .u32), (146, .int .u64), (157, .array 2 3), (158, .array 8 157), (164, .slice 22), (169, .array 16 144), (175, .array 8 174), (181, .slice 144), (192, .map 9 3), (195, .array 256 5), (198, .array 16 197), (208, .array 0 16), (211, .int .u8), (212, .int .u8), (214, .pointer 5), (215, .int .i32), (216, .int .i32)]
theorem el3 : Elem Tryz.prog 3 (.int .i64 0) 1 8 := Elem.of (by kernel_rfl) rfl (by decide)
theorem el4 : Elem Tryz.prog 4 (.bool false) 1 1 := Elem.of (by kernel_rfl) rfl (by decide)
theorem el5 : Elem Tryz.prog 5 (.int .u8 0) 1 1 := Elem.of (by kernel_rfl) rfl (by decide)
theorem el9 : Elem Tryz.prog 9 (.string ⟨#[]⟩) 1 16 := Elem.of (by kernel_rfl) rfl (by decide)
theorem el22 : Elem Tryz.prog 22 (.slice none 0 0) 1 24 := Elem.of (by kernel_rfl) rfl (by decide)
theorem el27 : Elem Tryz.prog 27 (.agg #[.int .i64 0, .int .i64 0, .int .i64 0]) 3 24 := Elem.of (by kernel_rfl) rfl (by decide)
theorem el28 : Elem Tryz.prog 28 (.slice none 0 0) 1 24 := Elem.of (by kernel_rfl) rfl (by decide)
theorem el29 : Elem Tryz.prog 29 (.slice none 0 0) 1 24 := Elem.of (by kernel_rfl) rfl (by decide)
theorem el31 : Elem Tryz.prog 31 (.agg #[.int .i64 0, .int .i64 0, .int .i64 0, .slice none 0 0, .slice none 0 0]) 5 72 := Elem.of (by kernel_rfl) rfl (by decide)
theorem el32 : Elem Tryz.prog 32 (.int .i64 0) 1 8 := Elem.of (by kernel_rfl) rfl (by decide)
theorem el35 : Elem Tryz.prog 35 (.slice none 0 0) 1 24 := Elem.of (by kernel_rfl) rfl (by decide)
theorem el37 : Elem Tryz.prog 37 (.agg #[.int .i64 0, .int .i64 0, .int .i64 0, .slice none 0 0, .slice none 0 0]) 5 72 := Elem.of (by kernel_rfl) rfl (by decide)
theorem el44 : Elem Tryz.prog 44 (.float .f64 0) 1 8 := Elem.of (by kernel_rfl) rfl (by decide)
theorem el45 : Elem Tryz.prog 45 (.slice none 0 0) 1 24 := Elem.of (by kernel_rfl) rfl (by decide)
theorem el46 : Elem Tryz.prog 46 (.slice none 0 0) 1 24 := Elem.of (by kernel_rfl) rfl (by decide)
theorem el48 : Elem Tryz.prog 48 (.agg #[.int .i64 0, .int .i64 0, .int .i64 0, .int .i64 0, .int .i64 0, .int .i64 0, .int .i64 0, .int .i64 0, .int .i64 0, .float .f64 0, .slice none 0 0, .slice none 0 0, .slice none 0 0, .slice none 0 0]) 14 176 := Elem.of (by kernel_rfl) rfl (by decide)
theorem el51 : Elem Tryz.prog 51 (.slice none 0 0) 1 24 := Elem.of (by kernel_rfl) rfl (by decide)
theorem el53 : Elem Tryz.prog 53 (.agg #[.slice none 0 0, .slice none 0 0, .int .i64 0, .slice none 0 0, .int .i64 0, .int .i64 0, .int .i64 0]) 7 104 := Elem.of (by kernel_rfl) rfl (by decide)
theorem el61 : Elem Tryz.prog 61 (.agg #[.slice none 0 0, .int .i64 0]) 2 32 := Elem.of (by kernel_rfl) rfl (by decide)
theorem el62 : Elem Tryz.prog 62 (.slice none 0 0) 1 24 := Elem.of (by kernel_rfl) rfl (by decide)
theorem el77 : Elem Tryz.prog 77 (.int .u64 0) 1 8 := Elem.of (by kernel_rfl) rfl (by decide)
theorem el78 : Elem Tryz.prog 78 (.slice none 0 0) 1 24 := Elem.of (by kernel_rfl) rfl (by decide)
theorem el79 : Elem Tryz.prog 79 (.slice none 0 0) 1 24 := Elem.of (by kernel_rfl) rfl (by decide)
theorem el81 : Elem Tryz.prog 81 (.agg #[.int .i64 0, .int .i64 0, .int .i64 0, .int .i64 0, .int .i64 0, .int .i64 0, .int .i64 0, .int .i64 0, .int .i64 0, .int .u64 0, .slice none 0 0, .slice none 0 0, .slice none 0 0, .slice none 0 0]) 14 176 := Elem.of (by kernel_rfl) rfl (by decide)
theorem el95 : Elem Tryz.prog 95 (.pointer none) 1 8 := Elem.of (by kernel_rfl) rfl (by decide)
theorem el98 : Elem Tryz.prog 98 (.complex .f64 0 0) 1 16 := Elem.of (by kernel_rfl) rfl (by decide)
theorem el102 : Elem Tryz.prog 102 (.agg #[.int .i64 0, .int .i64 0]) 2 16 := Elem.of (by kernel_rfl) rfl (by decide)
theorem el117 : Elem Tryz.prog 117 (.agg #[.bool false, .bool false, .bool false, .bool false, .bool false, .bool false, .bool false, .bool false]) 8 8 := Elem.of (by kernel_rfl) rfl (by decide)
theorem el120 : Elem Tryz.prog 120 (.agg #[.int .i64 0, .int .i64 0, .int .i64 0, .int .i64 0, .int .i64 0, .int .i64 0, .int .i64 0, .int .i64 0]) 8 64 := Elem.of (by kernel_rfl) rfl (by decide)
theorem el122 : Elem Tryz.prog 122 (.agg #[.int .i64 0, .int .i64 0, .int .i64 0, .int .i64 0]) 4 32 := Elem.of (by kernel_rfl) rfl (by decide)
theorem el129 : Elem Tryz.prog 129 (.agg #[.int .i64 0, .int .i64 0, .int .i64 0, .int .i64 0, .int .i64 0, .int .i64 0, .int .i64 0, .int .i64 0, .int .i64 0]) 9 72 := Elem.of (by kernel_rfl) rfl (by decide)
theorem el136 : Elem Tryz.prog 136 (.agg #[.int .u64 0, .int .u64 0]) 2 16 := Elem.of (by kernel_rfl) rfl (by decide)
theorem el144 : Elem Tryz.prog 144 (.int .u32 0) 1 4 := Elem.of (by kernel_rfl) rfl (by decide)
theorem el157 : Elem Tryz.prog 157 (.agg #[.int .i64 0, .int .i64 0]) 2 16 := Elem.of (by kernel_rfl) rfl (by decide)
theorem el158 : Elem Tryz.prog 158 (.agg #[.int .i64 0, .int .i64 0, .int .i64 0, .int .i64 0, .int .i64 0, .int .i64 0, .int .i64 0, .int .i64 0, .int .i64 0, .int .i64 0, .int .i64 0, .int .i64 0, .int .i64 0, .int .i64 0, .int .i64 0, .int .i64 0]) 16 128 := Elem.of (by kernel_rfl) rfl (by decide)
theorem el169 : Elem Tryz.prog 169 (.agg #[.int .u32 0, .int .u32 0, .int .u32 0, .int .u32 0, .int .u32 0, .int .u32 0, .int .u32 0, .int .u32 0, .int .u32 0, .int .u32 0, .int .u32 0, .int .u32 0, .int .u32 0, .int .u32 0, .int .u32 0, .int .u32 0]) 16 64 := Elem.of (by kernel_rfl) rfl (by decide)
theorem el174 : Elem Tryz.prog 174 (.agg #[.int .i64 0, .int .i64 0]) 2 16 := Elem.of (by kernel_rfl) rfl (by decide)
theorem el175 : Elem Tryz.prog 175 (.agg #[.int .i64 0, .int .i64 0, .int .i64 0, .int .i64 0, .int .i64 0, .int .i64 0, .int .i64 0, .int .i64 0, .int .i64 0, .int .i64 0, .int .i64 0, .int .i64 0, .int .i64 0, .int .i64 0, .int .i64 0, .int .i64 0]) 16 128 := Elem.of (by kernel_rfl) rfl (by decide)
theorem el181 : Elem Tryz.prog 181 (.slice none 0 0) 1 24 := Elem.of (by kernel_rfl) rfl (by decide)
theorem el183 : Elem Tryz.prog 183 (.agg #[.bool false, .slice none 0 0, .int .i64 0]) 3 40 := Elem.of (by kernel_rfl) rfl (by decide)
theorem hT : TabOk Tryz.prog T := ⟨Tryz.underlying2, Tryz.underlying3, Tryz.underlying4, Tryz.underlying5, Tryz.underlying6, Tryz.underlying9, Tryz.underlying10, Tryz.underlying11, Tryz.underlying12, Tryz.underlying15, Tryz.underlying16, Tryz.underlying17, Tryz.underlying21, Tryz.underlying22, Tryz.underlying28, Tryz.underlying29, Tryz.underlying32, Tryz.underlying35, Tryz.underlying44, Tryz.underlying45, Tryz.underlying46, Tryz.underlying51, Tryz.underlying59, Tryz.underlying62, Tryz.underlying70, Tryz.underlying77, Tryz.underlying78, Tryz.underlying79, Tryz.underlying90, Tryz.underlying92, Tryz.underlying94, Tryz.underlying95, Tryz.underlying98, Tryz.underlying117, Tryz.underlying120, Tryz.underlying122, Tryz.underlying129, Tryz.underlying136, Tryz.underlying139, Tryz.underlying144, Tryz.underlying146, Tryz.underlying157, Tryz.underlying158, Tryz.underlying164, Tryz.underlying169, Tryz.underlying175, Tryz.underlying181, Tryz.underlying192, Tryz.underlying195, Tryz.underlying198, Tryz.underlying208, Tryz.underlying211, Tryz.underlying212, Tryz.underlying214, Tryz.underlying215, Tryz.underlying216, trivial⟩
end Go.Proofs.YtnomlloaahoceaaGreatDoor

/- The seat's structs and arrays. No condition. -/
namespace Go.Proofs.YtnomlloaahoceaaGreatDoor
theorem plan27 : plan Tryz.prog 27 = some ([.int .i64 0, .int .i64 0, .int .i64 0], [(0, 1), (1, 1), (2, 1)]) := by kernel_rfl
theorem plan31 : plan Tryz.prog 31 = some ([.int .i64 0, .int .i64 0, .int .i64 0, .slice none 0 0, .slice none 0 0], [(0, 3), (3, 1), (4, 1)]) := by kernel_rfl
theorem plan37 : plan Tryz.prog 37 = some ([.int .i64 0, .int .i64 0, .int .i64 0, .slice none 0 0, .slice none 0 0], [(0, 3), (3, 1), (4, 1)]) := by kernel_rfl
theorem plan48 : plan Tryz.prog 48 = some ([.int .i64 0, .int .i64 0, .int .i64 0, .int .i64 0, .int .i64 0, .int .i64 0, .int .i64 0, .int .i64 0, .int .i64 0, .float .f64 0, .slice none 0 0, .slice none 0 0, .slice none 0 0, .slice none 0 0], [(0, 1), (1, 1), (2, 1), (3, 1), (4, 1), (5, 1), (6, 1), (7, 1), (8, 1), (9, 1), (10, 1), (11, 1), (12, 1), (13, 1)]) := by kernel_rfl
theorem plan53 : plan Tryz.prog 53 = some ([.slice none 0 0, .slice none 0 0, .int .i64 0, .slice none 0 0, .int .i64 0, .int .i64 0, .int .i64 0], [(0, 1), (1, 1), (2, 1), (3, 1), (4, 1), (5, 1), (6, 1)]) := by kernel_rfl
theorem plan61 : plan Tryz.prog 61 = some ([.slice none 0 0, .int .i64 0], [(0, 1), (1, 1)]) := by kernel_rfl
theorem plan64 : plan Tryz.prog 64 = some ([.slice none 0 0, .int .i64 0, .int .i64 0, .int .i64 0, .int .i64 0, .slice none 0 0, .slice none 0 0, .slice none 0 0, .int .i64 0], [(0, 2), (2, 5), (7, 1), (8, 1)]) := by kernel_rfl
theorem plan72 : plan Tryz.prog 72 = some ([.slice none 0 0, .int .i64 0, .int .i64 0, .int .i64 0], [(0, 1), (1, 1), (2, 1), (3, 1)]) := by kernel_rfl
theorem plan81 : plan Tryz.prog 81 = some ([.int .i64 0, .int .i64 0, .int .i64 0, .int .i64 0, .int .i64 0, .int .i64 0, .int .i64 0, .int .i64 0, .int .i64 0, .int .u64 0, .slice none 0 0, .slice none 0 0, .slice none 0 0, .slice none 0 0], [(0, 1), (1, 1), (2, 1), (3, 1), (4, 1), (5, 1), (6, 1), (7, 1), (8, 1), (9, 1), (10, 1), (11, 1), (12, 1), (13, 1)]) := by kernel_rfl
theorem plan102 : plan Tryz.prog 102 = some ([.int .i64 0, .int .i64 0], [(0, 1), (1, 1)]) := by kernel_rfl
theorem plan120 : plan Tryz.prog 120 = some ([.int .i64 0, .int .i64 0, .int .i64 0, .int .i64 0, .int .i64 0, .int .i64 0, .int .i64 0, .int .i64 0], [(0, 1), (1, 1), (2, 1), (3, 1), (4, 1), (5, 1), (6, 1), (7, 1)]) := by kernel_rfl
theorem plan122 : plan Tryz.prog 122 = some ([.int .i64 0, .int .i64 0, .int .i64 0, .int .i64 0], [(0, 1), (1, 1), (2, 1), (3, 1)]) := by kernel_rfl
theorem plan129 : plan Tryz.prog 129 = some ([.int .i64 0, .int .i64 0, .int .i64 0, .int .i64 0, .int .i64 0, .int .i64 0, .int .i64 0, .int .i64 0, .int .i64 0], [(0, 1), (1, 1), (2, 1), (3, 1), (4, 1), (5, 1), (6, 1), (7, 1), (8, 1)]) := by kernel_rfl
theorem plan136 : plan Tryz.prog 136 = some ([.int .u64 0, .int .u64 0], [(0, 1), (1, 1)]) := by kernel_rfl
theorem plan157 : plan Tryz.prog 157 = some ([.int .i64 0, .int .i64 0], [(0, 1), (1, 1)]) := by kernel_rfl
theorem plan174 : plan Tryz.prog 174 = some ([.int .i64 0, .int .i64 0], [(0, 1), (1, 1)]) := by kernel_rfl
theorem plan183 : plan Tryz.prog 183 = some ([.bool false, .slice none 0 0, .int .i64 0], [(0, 1), (1, 1), (2, 1)]) := by kernel_rfl
end Go.Proofs.YtnomlloaahoceaaGreatDoor

/- Our own words: short names of steps. Nothing here speaks of a statement; no condition. -/
namespace Go.Proofs.YtnomlloaahoceaaGreatDoor
open Go.RowKit
set_option linter.unusedVariables false
section
variable {N : Nt} {e : Env} {Q : Exit → Act → World → Prop} {w w0 : World} {B : Nat} {L : List It} {ops : Array Oper} {S : World → Prop} {fuel : Nat} {listed : Array Bool} {o : Oper} {rest : List Oper} {d : Nat} {v : Value}
theorem Zp (h0 : (o.dst, o.guard, Nat.ble (d + 1) N, pureOp T e o.op) = (some d, none, true, some v)) (h : GL Tryz.prog N ops ((d, v) :: e) rest Q w) : GL Tryz.prog N ops e (o :: rest) Q w := by
  injection h0 with h1 h0; injection h0 with h2 h0; injection h0 with h3 h4
  exact gl_op h1 h2 h3 (op_pure hT h4) h
theorem Zi {n : Int} (h0 : (o.dst, o.guard, Nat.ble (d + 1) N, pureOp T e o.op) = (some d, none, true, some (.int .i64 (IntKind.i64.wrap n)))) (hb : -9223372036854775808 ≤ n ∧ n ≤ 9223372036854775807) (h : GL Tryz.prog N ops ((d, .int .i64 n) :: e) rest Q w) : GL Tryz.prog N ops e (o :: rest) Q w := by
  injection h0 with h1 h0; injection h0 with h2 h0; injection h0 with h3 h4
  exact gl_fit hT h1 h2 h4 h3 hb h
theorem Zf {s : TypeId} {x : Operand} {k : Nat} {fields : Array Field} {f : Field} {g k0 : Nat} {z : Value} {sz bytes : Nat} (j : Nat) (hs : Tryz.prog.underlying s = some (.struct fields)) (h0 : (o.dst, o.guard, Nat.ble (d + 1) N, o.op, fields[k]?, evO e x, k0 + f.offset) = (some d, none, true, .fieldAddr s x k, some f, some (.pointer (some ⟨g, k0, none⟩)), j))
    (hel : Elem Tryz.prog f.type z sz bytes) (h : GL Tryz.prog N ops ((d, .pointer (some ⟨g, j, none⟩)) :: e) rest Q w) : GL Tryz.prog N ops e (o :: rest) Q w := by
  injection h0 with h1 h0; injection h0 with h2 h0; injection h0 with h3 h0; injection h0 with h4 h0; injection h0 with h5 h0; injection h0 with h6 h7
  exact gl_op h1 h2 h3 (op_fieldB j h4 hs h5 hel h6 h7) h
theorem Zb {t bt : TypeId} {x : Operand} {g j : Nat} {dd : TypeDesc} {cs : List Value} (i : Nat) (hS : St B w0 w L) (h0 : (o.dst, o.guard, Nat.ble (d + 1) N, o.op, tlook T t, isAggD dd, evO e x, L[i]?, cs[j]?) = (some d, none, true, .load t x, some dd, false, some (.pointer (some ⟨g, j, none⟩)), some (.blk g bt cs), some v))
    (h : GL Tryz.prog N ops ((d, v) :: e) rest Q w) : GL Tryz.prog N ops e (o :: rest) Q w := by
  injection h0 with h1 h0; injection h0 with h2 h0; injection h0 with h3 h0; injection h0 with h4 h0; injection h0 with h5 h0; injection h0 with h6 h0; injection h0 with h7 h0; injection h0 with h8 h9
  exact gl_op h1 h2 h3 (op_loadB i hT hS h4 h5 h6 h7 h8 h9) h
theorem Zg {t bt : TypeId} {x : Operand} {g j sz bytes : Nat} {z : Value} {dd : TypeDesc} {cs vs : List Value} (i : Nat) (hd : Tryz.prog.underlying t = some dd) (hel : Elem Tryz.prog t z sz bytes) (hS : St B w0 w L) (h0 : (o.dst, o.guard, Nat.ble (d + 1) N, o.op, isAggD dd, evO e x, L[i]?, (cs.drop j).take sz, vs.length) = (some d, none, true, .load t x, true, some (.pointer (some ⟨g, j, none⟩)), some (.blk g bt cs), vs, sz))
    (h : GL Tryz.prog N ops ((d, .agg ⟨vs⟩) :: e) rest Q w) : GL Tryz.prog N ops e (o :: rest) Q w := by
  injection h0 with h1 h0; injection h0 with h2 h0; injection h0 with h3 h0; injection h0 with h4 h0; injection h0 with h5 h0; injection h0 with h6 h0; injection h0 with h7 h0; injection h0 with h8 h9
  exact gl_op h1 h2 h3 (op_loadG i hd h5 hel hS h4 h6 h7 h8 h9) h
theorem Zs {j t : Nat} {want b : Bool} (h0 : (o.dst, o.guard, (ops[j]?).bind (·.dst), look e t, b, Nat.ble (d + 1) N) = (some d, some (j, want), some t, some (.bool b), !want, true)) (h : GL Tryz.prog N ops ((d, undef) :: e) rest Q w) : GL Tryz.prog N ops e (o :: rest) Q w := by
  injection h0 with h1 h0; injection h0 with h2 h0; injection h0 with h3 h0; injection h0 with h4 h0; injection h0 with h5 h6
  exact gl_pass h1 h2 h3 h4 h5 h6 h
theorem Zu {j t : Nat} {want b : Bool} (h0 : (o.guard, (ops[j]?).bind (·.dst), look e t, b) = (some (j, want), some t, some (.bool b), want)) (h : GL Tryz.prog N ops e ({ o with guard := none } :: rest) Q w) : GL Tryz.prog N ops e (o :: rest) Q w := by
  injection h0 with h1 h0; injection h0 with h2 h0; injection h0 with h3 h4
  exact gl_un h1 h2 h3 h4 h
theorem Yp (i : Nat) (h0 : (ops[i]?, o.dst, o.guard, Nat.ble (d + 1) N, pureOp T e o.op) = (some o, some d, none, true, some v)) (hok : takeB ops listed i = true) (hQ : PanOk Q d) (hS : S w) (h : GA Tryz.prog N ops S ((d, v) :: e) fuel (listed.setIfInBounds i true) Q w) : GA Tryz.prog N ops S e (fuel + 1) listed Q w := by
  injection h0 with h1 h0; injection h0 with h2 h0; injection h0 with h3 h0; injection h0 with h4 h5
  exact ga_take i h1 h2 h3 h4 hok hQ hS (fun w1 _ => op_pure hT h5) h
theorem Yi {n : Int} (i : Nat) (h0 : (ops[i]?, o.dst, o.guard, Nat.ble (d + 1) N, pureOp T e o.op) = (some o, some d, none, true, some (.int .i64 (IntKind.i64.wrap n)))) (hb : -9223372036854775808 ≤ n ∧ n ≤ 9223372036854775807) (hok : takeB ops listed i = true) (hQ : PanOk Q d) (hS : S w) (h : GA Tryz.prog N ops S ((d, .int .i64 n) :: e) fuel (listed.setIfInBounds i true) Q w) : GA Tryz.prog N ops S e (fuel + 1) listed Q w := by
  injection h0 with h1 h0; injection h0 with h2 h0; injection h0 with h3 h0; injection h0 with h4 h5
  exact ga_take i h1 h2 h3 h4 hok hQ hS (fun w1 _ => op_fit hT h5 hb) h
theorem Yf {s : TypeId} {x : Operand} {k : Nat} {fields : Array Field} {f : Field} {g k0 : Nat} {z : Value} {sz bytes : Nat} (i j : Nat) (hs : Tryz.prog.underlying s = some (.struct fields)) (h0 : (ops[i]?, o.dst, o.guard, Nat.ble (d + 1) N, o.op, fields[k]?, evO e x, k0 + f.offset) = (some o, some d, none, true, .fieldAddr s x k, some f, some (.pointer (some ⟨g, k0, none⟩)), j))
    (hel : Elem Tryz.prog f.type z sz bytes) (hok : takeB ops listed i = true) (hQ : PanOk Q d) (hS : S w) (h : GA Tryz.prog N ops S ((d, .pointer (some ⟨g, j, none⟩)) :: e) fuel (listed.setIfInBounds i true) Q w) : GA Tryz.prog N ops S e (fuel + 1) listed Q w := by
  injection h0 with h1 h0; injection h0 with h2 h0; injection h0 with h3 h0; injection h0 with h4 h0; injection h0 with h5 h0; injection h0 with h6 h0; injection h0 with h7 h8
  exact ga_take i h1 h2 h3 h4 hok hQ hS (fun w1 _ => op_fieldB j h5 hs h6 hel h7 h8) h
theorem Yb {t bt : TypeId} {x : Operand} {g j : Nat} {dd : TypeDesc} {cs : List Value} (i i2 : Nat) (h0 : (ops[i]?, o.dst, o.guard, Nat.ble (d + 1) N, o.op, tlook T t, isAggD dd, evO e x, L[i2]?, cs[j]?) = (some o, some d, none, true, .load t x, some dd, false, some (.pointer (some ⟨g, j, none⟩)), some (.blk g bt cs), some v))
    (hok : takeB ops listed i = true) (hQ : PanOk Q d) (hS : St B w0 w L) (h : GA Tryz.prog N ops (fun w1 => St B w0 w1 L) ((d, v) :: e) fuel (listed.setIfInBounds i true) Q w) : GA Tryz.prog N ops (fun w1 => St B w0 w1 L) e (fuel + 1) listed Q w := by
  injection h0 with h1 h0; injection h0 with h2 h0; injection h0 with h3 h0; injection h0 with h4 h0; injection h0 with h5 h0; injection h0 with h6 h0; injection h0 with h7 h0; injection h0 with h8 h0; injection h0 with h9 h10
  exact ga_take i h1 h2 h3 h4 hok hQ hS (fun w1 hS => op_loadB i2 hT hS h5 h6 h7 h8 h9 h10) h
theorem Ys {j t : Nat} {want b : Bool} (i : Nat) (h0 : (ops[i]?, o.dst, o.guard, (ops[j]?).bind (·.dst), look e t, b, Nat.ble (d + 1) N) = (some o, some d, some (j, want), some t, some (.bool b), !want, true)) (hok : takeB ops listed i = true) (hQ : PanOk Q d) (hS : S w) (h : GA Tryz.prog N ops S ((d, undef) :: e) fuel (listed.setIfInBounds i true) Q w) : GA Tryz.prog N ops S e (fuel + 1) listed Q w := by
  injection h0 with h1 h0; injection h0 with h2 h0; injection h0 with h3 h0; injection h0 with h4 h0; injection h0 with h5 h0; injection h0 with h6 h7
  exact ga_pass i h1 h2 h3 h4 h5 h6 h7 hok hQ hS h
theorem NN : (∀ (p : Prop) [Decidable p], (decide p = true) = p) ∧ (∀ (p : Prop) [Decidable p], (decide p = false) = ¬p) ∧ (∀ b : Bool, ((!b) = true) = (b = false)) ∧ (∀ b : Bool, ((!b) = false) = (b = true)) ∧ (∀ a b : Int, (¬a < b) = (b ≤ a)) ∧ (∀ a b : Int, (¬a ≤ b) = (b < a)) ∧ (∀ a b : Nat, (¬a < b) = (b ≤ a)) ∧ (∀ a b : Nat, (¬a ≤ b) = (b < a)) ∧ (∀ b : Bool, (true = b) = (b = true)) ∧ (∀ b : Bool, (false = b) = (b = false)) :=
  ⟨fun p _ => by simp, fun p _ => by simp, fun b => by simp, fun b => by simp, fun a b => by simp, fun a b => by simp, fun a b => by simp, fun a b => by simp, fun b => by simp, fun b => by simp⟩
theorem XR : (∀ (K : Act → World → Prop) (Q : Exit → Act → World → Prop), Exit.then K Q .ret = Q .ret) ∧ (∀ (i : Nat) (Q : Exit → Act → World → Prop), Exit.inBlock i Q .ret = Q .ret) := ⟨x_then_ret, x_block_ret⟩
end
end Go.Proofs.YtnomlloaahoceaaGreatDoor
