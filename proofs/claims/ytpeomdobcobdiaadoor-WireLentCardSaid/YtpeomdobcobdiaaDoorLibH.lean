/- Our own words: what the model itself answers, slices that are made, elements that are written. Nothing here speaks of a statement; no condition. -/
import Derived.Test.YtpeomdobcobdiaaDoorLibG
import Derived.Laws.Externs
import Derived.Laws.OwnMore
import Derived.Laws.Cover3
namespace Go.Proofs.YtpeomdobcobdiaaDoor
open Go.RowKit
set_option linter.unusedVariables false
set_option linter.unusedSimpArgs false
section
variable {P : Program} {N : Nat} {e : Env} {Q : Exit → Act → World → Prop} {w w0 w' : World} {T : TyTab} {B : Nat} {L : List It}
/-- A call that the model answers. -/
theorem op_extern {o : Oper} {f : FuncId} {xs : List Operand} {ts : Array TypeId} {vs : List Value} {fn : Func} {ext : Array Value → Sem Value} {v : Value} (ho : o.op = .call { callee := .value (.func f), args := ⟨xs⟩, argTypes := ts })
    (hf : P.funcs[f]? = some fn) (hname : (fn.name == "runtime.NumGoroutine") = false) (hb : fn.body.isNone = true) (hn : Extern.findNext fn = none) (he : Extern.find fn = some ext) (hx : evArgs e xs = some vs)
    (hv : ∀ w, (ext ⟨vs⟩).run P w = .ok v w) : OpR P N e w o v := by
  intro q a ha
  have h1 := evArgs_map ha hx
  have h2 := run_callFunc_extern (P := P) hf hname hb hn he ⟨vs⟩ (World.dr w q)
  rw [hv] at h2
  simp only [execOp, ho, resolve, invoke, Deferred.ofValue, Act.eval, Sem.run_bind, Sem.run_pure, Result.andThen_ok, pure_bind]
  simp [h1, h2]
theorem gl_make {ops : Array Oper} {o : Oper} {rest : List Oper} {d : Nat} {t el : TypeId} {x y : Operand} {z : Value} {sz bytes : Nat} {k1 k2 : IntKind} {n : Nat}
    (hT : TabOk P T) (hS : St B w0 w L) (hel : Elem P el z sz bytes) (hd : o.dst = some d) (hg : o.guard = none) (hN : Nat.ble (d + 1) N = true) (ho : o.op = .makeSlice t x y)
    (ht : tlook T t = some (.slice el)) (hx : evO e x = some (.int k1 (n : Int))) (hy : evO e y = some (.int k2 (n : Int))) (hb : n * bytes ≤ 281474976710656) (hmax : n ≤ 9223372036854775807)
    (h : ∀ g w', St B w0 w' (L ++ [.row (some ⟨g, 0, none⟩) n el sz n (madeCells z.cells (n * sz)).toList]) → GL P N ops ((d, .slice (some ⟨g, 0, none⟩) n n) :: e) rest Q w') : GL P N ops e (o :: rest) Q w := by
  obtain ⟨i, hi, hz, hsz, hb'⟩ := hel.ex
  have hbi : (i.bytes : Int) * (n : Int) ≤ 281474976710656 := by
    have h : ((i.bytes * n : Nat) : Int) ≤ 281474976710656 := by rw [Nat.mul_comm, hb']; omega
    rwa [Int.natCast_mul] at h
  have hrun := run_make (P := P) w t el i z (hT.at ht) hi hz k1 k2 n n (by omega) (Int.le_refl _) hbi (by omega)
  simp only [Int.toNat_natCast] at hrun
  have hsc : (madeCells z.cells (n * i.size)).size = n * i.size := size_madeCells _ _
  refine gl_step hd (Nat.le_of_ble_eq_true hN) hg (fun a ha => ?_) (h w.heap.size (w.alloc (.cells (madeCells z.cells (n * i.size)) el)) (hS.add rfl rfl rfl (by simp) (fun b hb => Below.heap_alloc w _ b hb) ?_ ?_))
  · simp only [execOp, ho, ha.eval hx, ha.eval hy, Sem.run_bind, hrun, Result.andThen_ok, Sem.run_pure]
  · rw [hsz] at hsc ⊢
    refine ⟨by rw [Array.length_toList, hsc], .inr ⟨w.heap.size, n, _, rfl, hS.size, heap_alloc_new w _, Nat.le_refl _, Nat.le_refl _, by simp only [maxLen]; omega, hsc, ?_⟩⟩
    rw [List.take_of_length_le (by rw [Array.length_toList, hsc]; exact Nat.le_refl _)]
  · rintro b ⟨a, h, rfl⟩; injection h with h; rw [← h]; exact Nat.le_refl _
/-- &x[i] of a row of this call. -/
theorem gl_ixR {ops : Array Oper} {o : Oper} {rest : List Oper} {d : Nat} {t : TypeId} {x y : Operand} {el bt : TypeId} {A : Option Addr} {c n nv cv : Nat} {k : IntKind} {m : Int} {xs : List Value} (i : Nat)
    (hT : TabOk P T) (hS : St B w0 w L) (hd : o.dst = some d) (hg : o.guard = none) (hN : Nat.ble (d + 1) N = true) (ho : o.op = .indexAddr t x y) (ht : tlook T t = some (.slice el))
    (hsz : P.cellsOf el = 1) (hsome : (P.info? el).isSome = true) (hx : evO e x = some (.slice A nv cv)) (hy : evO e y = some (.int k m)) (hi : L[i]? = some (.row A c bt 1 n xs)) (h0 : 0 ≤ m) (h1 : m < nv) (h2 : nv ≤ n)
    (h : ∀ g, A = some ⟨g, 0, none⟩ → GL P N ops ((d, .pointer (some ⟨g, m.toNat, none⟩)) :: e) rest Q w) : GL P N ops e (o :: rest) Q w := by
  have hown : Owns w B A c bt 1 n xs := hS.at hi
  rcases hown.2 with ⟨_, _, h3⟩ | ⟨g, cap, cur, hA, _⟩
  · omega
  · have e1 : (⟨g, 0, none⟩ : Addr).add (m.toNat * 1) = ⟨g, m.toNat, none⟩ := by unfold Addr.add; split <;> simp_all
    have hop := op_indexAddr (N := N) (w := w) hT ho ht hsz hsome hx hy h0 h1 hA
    rw [e1] at hop
    exact gl_op hd hg hN hop (h g hA)
theorem St.storedR (hS : St B w0 w L) {i g c n : Nat} {el : TypeId} {xs : List Value} (hi : L[i]? = some (.row (some ⟨g, 0, none⟩) c el 1 n xs)) (j : Nat) (hj : j < n) (v : Value) : St B w0 (w.setCell ⟨g, j, none⟩ v) (L.set i (.row (some ⟨g, 0, none⟩) c el 1 n (xs.set j v))) := by
  have ho : Owns w B (some ⟨g, 0, none⟩) c el 1 n xs := hS.at hi
  refine hS.update hi rfl rfl rfl (by simp [World.setCell]) (fun b _ hf => Below.heap_setCell w _ _ b (fun h => hf ⟨_, rfl, h.symm⟩)) (?_ : Owns _ B (some ⟨g, 0, none⟩) c el 1 n (xs.set j v)) (fun b hb => .inl hb)
  rcases ho.2 with ⟨h1, _⟩ | ⟨g', cap, cur, hA, hB, hh, h3, h4, h5, h6, h7⟩
  · cases h1
  · injection hA with hA; injection hA with hA _; subst hA
    refine ⟨by rw [List.length_set]; exact ho.1, .inr ⟨g, cap, cur.setIfInBounds j v, rfl, hB, ?_, h3, h4, h5, by simpa using h6, ?_⟩⟩
    · simp [World.setCell, Array.getElem?_modify, hh]
    · rw [Nat.mul_one] at h7 ⊢
      rw [← h7, Array.toList_setIfInBounds, List.take_set]
/-- x[i] = v. -/
theorem gl_storeR {ops : Array Oper} {o : Oper} {rest : List Oper} {el bt : TypeId} {x y : Operand} {g j c n : Nat} {v : Value} {xs : List Value} (i : Nat) (hS : St B w0 w L) (hsz : P.cellsOf el = 1) (hsome : (P.info? el).isSome = true)
    (hd : o.dst = none) (hg : o.guard = none) (ho : o.op = .store el x y) (hx : evO e x = some (.pointer (some ⟨g, j, none⟩))) (hy : evO e y = some v) (hi : L[i]? = some (.row (some ⟨g, 0, none⟩) c bt 1 n xs)) (hj : j < n) (hv : oneCells v = true)
    (h : ∀ w', St B w0 w' (L.set i (.row (some ⟨g, 0, none⟩) c bt 1 n (xs.set j v))) → GL P N ops e rest Q w') : GL P N ops e (o :: rest) Q w := by
  have hown : Owns w B (some ⟨g, 0, none⟩) c bt 1 n xs := hS.at hi
  refine gl_act (w' := w.setCell ⟨g, j, none⟩ v) hd hg (fun a ha => ?_) (h _ (hS.storedR hi j hj v))
  obtain ⟨cap, cur, hh, hcs⟩ : ∃ cap cur, w.heap[g]? = some (.cells cur bt (0, 0)) ∧ j < cur.size := by
    rcases hown.2 with ⟨h1, _⟩ | ⟨g', cap, cur, hA, _, hh, h3, h4, h5, h6, _⟩
    · cases h1
    · injection hA with hA; injection hA with hA _; subst hA
      exact ⟨cap, cur, hh, by omega⟩
  have hh' : w.heap[g]? = some (.cells ⟨cur.toList⟩ bt (0, 0)) := by simpa using hh
  have h1 := run_storeVar1 (P := P) hsz hsome hh' (by simpa using hcs) hv
  simp only [execOp, ho, ha.eval hx, ha.eval hy, Instr.storeAt, Instr.sureAddr, Sem.run_bind, Sem.run_pure, Result.andThen_ok, pure_bind, h1]
/-- A slice against nil. -/
theorem op_eqnil {o : Oper} {t yt el : TypeId} {x : Operand} {A : Option Addr} {n c : Nat} (hT : TabOk P T) (ho : o.op = .binOp .eql t x (.const (.slice none 0 0)) yt) (ht : tlook T t = some (.slice el)) (hx : evO e x = some (.slice A n c)) : OpR P N e w o (.bool A.isNone) := by
  intro q a ha
  have h1 := run_equal_slice_nil (P := P) (World.dr w q) t el A n c (hT.at ht)
  have hc : a.eval (.const (.slice none 0 0)) = .slice none 0 0 := rfl
  simp only [execOp, ho, ha.eval hx, hc]
  simp [eqGuard, binOp, h1, Sem.run_bind, Sem.run_pure]
theorem gq_spell {ops : Array Oper} {l : List Oper} {Qa : Act → Prop} {C : World → Prop} (t : Nat) {u v : Value} (hu : look e t = some u) (huv : u = v) (h : GQ P N ops ((t, v) :: e) l C Qa) : GQ P N ops e l C Qa :=
  fun a ha => h a (ha.spell hu huv)
end
end Go.Proofs.YtpeomdobcobdiaaDoor
