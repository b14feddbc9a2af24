/- Our own words for walking a function's code: a frame told by a list of slots, operations that only reckon, and steps through regions and calls. Nothing here speaks of a statement; no condition. -/
import Derived.WalkKit
import Derived.Deep.Quiet
import Derived.KernelRfl
namespace Go.Proofs.YtpeomdobcobdiaaDoor
open Go.RowKit
set_option linter.unusedVariables false
set_option linter.unusedSimpArgs false

/-! ### frames -/
abbrev Env := List (Nat × Value)
def look : Env → Nat → Option Value
  | [], _ => none
  | (k, v) :: r, t => bif Nat.beq k t then some v else look r t
structure Fr (N : Nat) (a : Act) (e : Env) : Prop where
  defers : a.defers = []
  size : a.tmps.size = N
  get : ∀ t v, look e t = some v → a.tmps[t]? = some v
def evO (e : Env) : Operand → Option Value
  | .tmp t => look e t
  | .const v => some v
  | .global g => some (.pointer (some ⟨g, 0, none⟩))
  | .func f => some (.func (.func f) #[] #[])
theorem Fr.eval {N : Nat} {a : Act} {e : Env} (h : Fr N a e) {x : Operand} {v : Value} (hx : evO e x = some v) : a.eval x = v := by
  cases x with
  | tmp t => have := h.get t v hx; simp [Act.eval, Array.getD_eq_getD_getElem?, this]
  | const u => simpa [evO, Act.eval] using hx
  | global g => simpa [evO, Act.eval] using hx
  | func f => simpa [evO, Act.eval] using hx
theorem look_cons {e : Env} {d t : Nat} {v u : Value} (h : look ((d, v) :: e) t = some u) : (d = t ∧ u = v) ∨ (d ≠ t ∧ look e t = some u) := by
  unfold look at h
  by_cases hd : d = t
  · subst hd
    simp at h
    exact .inl ⟨rfl, h.symm⟩
  · have : Nat.beq d t = false := by
      rw [Bool.eq_false_iff]; exact fun hb => hd (Nat.eq_of_beq_eq_true hb)
    rw [this] at h
    exact .inr ⟨hd, by simpa using h⟩
theorem Fr.put {N : Nat} {a : Act} {e : Env} (h : Fr N a e) {d : Nat} (hd : d < N) (v : Value) : Fr N (a.put (some d) v) ((d, v) :: e) := by
  refine ⟨h.defers, by simp [Act.put, h.size], fun t u hu => ?_⟩
  rcases look_cons hu with ⟨rfl, rfl⟩ | ⟨hne, hu⟩
  · simp [Act.put, h.size, hd]
  · have := h.get t u hu
    simp [Act.put, Array.getElem?_setIfInBounds, hne, this]
theorem Fr.put_none {N : Nat} {a : Act} {e : Env} (h : Fr N a e) (v : Value) : Fr N (a.put none v) e := h
/-- The same slots, told anew. -/
def subEnv (e : Env) : Env → Prop
  | [] => True
  | (t, v) :: r => look e t = some v ∧ subEnv e r
theorem Fr.sub {N : Nat} {a : Act} {e : Env} (h : Fr N a e) : ∀ {e' : Env}, subEnv e e' → Fr N a e' := by
  intro e' hs
  refine ⟨h.defers, h.size, fun t v hv => h.get t v ?_⟩
  induction e' with
  | nil => simp [look] at hv
  | cons p r ih =>
    obtain ⟨k, u⟩ := p
    obtain ⟨h1, h2⟩ := hs
    rcases look_cons hv with ⟨rfl, rfl⟩ | ⟨_, hv⟩
    · exact h1
    · exact ih h2 hv
/-- A slot's value, spelt otherwise. -/
theorem Fr.spell {N : Nat} {a : Act} {e : Env} (h : Fr N a e) {t : Nat} {u v : Value} (hu : look e t = some u) (huv : u = v) : Fr N a ((t, v) :: e) := by
  subst huv
  refine ⟨h.defers, h.size, fun s x hx => ?_⟩
  rcases look_cons hx with ⟨rfl, rfl⟩ | ⟨_, hx⟩
  · exact h.get _ _ hu
  · exact h.get _ _ hx

/-! ### goals -/
/-- The code's wp, from whatever frame has these slots. -/
def GC (P : Program) (N : Nat) (e : Env) (c : Code) (Q : Exit → Act → World → Prop) (w : World) : Prop := ∀ a, Fr N a e → c.wp P Q a w
/-- The same of a region's operations. -/
def GL (P : Program) (N : Nat) (ops : Array Oper) (e : Env) (l : List Oper) (Q : Exit → Act → World → Prop) (w : World) : Prop := ∀ a, Fr N a e → wpList P ops Q l a w
/-- What is asked where a piece of code ends. -/
def GK (N : Nat) (e : Env) (K : Act → World → Prop) (w : World) : Prop := ∀ a, Fr N a e → K a w

section
variable {P : Program} {N : Nat} {e : Env} {Q : Exit → Act → World → Prop} {w : World}
theorem gc_enter {f : FuncId} {fn : Func} {c : Code} {vals : List Value} {R : Ending → World → Prop} (hf : P.funcs[f]? = some fn) (hb : fn.body = some c)
    (hN : fn.ntmps = N) (hl0 : Nat.ble vals.length N = true) (e : Env) (he : e = (List.range vals.length).zip vals) (h : GC P N e c (bodyPost P fn R) w) : Calls P f ⟨vals⟩ w R := by
  have hl := Nat.le_of_ble_eq_true hl0
  subst he
  refine calls_of_wp hf hb (h _ ⟨rfl, by simp [hN]; omega, fun t v hv => ?_⟩)
  have hz : ∀ (l : List Value) (k : Nat) (t : Nat) (v : Value), look ((List.range' k l.length).zip l) t = some v → k ≤ t ∧ l[t - k]? = some v := by
    intro l
    induction l with
    | nil => intro k t v hh; simp [look] at hh
    | cons x l ih =>
      intro k t v hh
      rw [List.length_cons, List.range'_succ, List.zip_cons_cons] at hh
      rcases look_cons hh with ⟨rfl, rfl⟩ | ⟨hne, hh⟩
      · simp
      · obtain ⟨h1, h2⟩ := ih _ _ _ hh
        refine ⟨by omega, ?_⟩
        rw [show t - k = (t - (k + 1)) + 1 by omega]
        simpa using h2
  obtain ⟨_, h2⟩ := hz vals 0 t v (by rwa [← List.range_eq_range'])
  have hlt : t < vals.length := by
    rcases Nat.lt_or_ge t vals.length with h | h
    · exact h
    · rw [Nat.sub_zero, List.getElem?_eq_none h] at h2; cases h2
  simp only [Nat.sub_zero] at h2
  rw [Array.getElem?_append_left (by simpa using hlt)]
  simpa using h2
theorem gc_seq {x y : Code} (h : ∀ K : Act → World → Prop, (∀ e' w', GC P N e' y Q w' → GK N e' K w') → GC P N e x (Exit.then K Q) w) : GC P N e (.seq x y) Q w :=
  fun a ha => wp_seq (h _ (fun _ _ hg a' ha' => hg a' ha') a ha)
theorem gc_skip (h : GK N e (Q .normal) w) : GC P N e .skip Q w := fun a ha => wp_skip (h a ha)
theorem gc_ret (h : GK N e (Q .ret) w) : GC P N e .ret Q w := fun a ha => wp_ret (h a ha)
theorem gc_exit {i : Nat} (h : GK N e (Q (.exit i)) w) : GC P N e (.exit i) Q w := fun a ha => wp_exit (h a ha)
theorem gc_block {i : Nat} {c : Code} (h : GC P N e c (Exit.inBlock i Q) w) : GC P N e (.block i c) Q w := fun a ha => wp_block (h a ha)
theorem gc_region {i : Nat} {ops : Array Oper} (h : GL P N ops e ops.toList Q w) : GC P N e (.region i ops false) Q w := fun a ha => wp_region_list (h a ha)
theorem gc_cond {c : Operand} {x y : Code} {b : Bool} {t : Nat} (hc : c = .tmp t) (hb : look e t = some (.bool b))
    (h1 : b = true → GC P N ((t, .bool true) :: e) x Q w) (h2 : b = false → GC P N ((t, .bool false) :: e) y Q w) : GC P N e (.cond c x y) Q w := by
  subst hc
  intro a ha
  have hv : a.eval (.tmp t) = .bool b := ha.eval (x := .tmp t) hb
  refine wp_cond_split hv (fun h => h1 h a (ha.spell hb (by rw [h]))) (fun h => h2 h a (ha.spell hb (by rw [h])))
theorem gc_cond_t {c : Operand} {x y : Code} (hb : evO e c = some (.bool true)) (h : GC P N e x Q w) : GC P N e (.cond c x y) Q w :=
  fun a ha => wp_cond (ha.eval hb) (h a ha)
theorem gc_cond_f {c : Operand} {x y : Code} (hb : evO e c = some (.bool false)) (h : GC P N e y Q w) : GC P N e (.cond c x y) Q w :=
  fun a ha => wp_cond (ha.eval hb) (h a ha)
/-- A loop, its rounds told by a relation with a count. -/
theorem gc_loop {c : Code} (I : Nat → Act → World → Prop) (k0 : Nat) (h0 : GK N e (I k0) w) (hz : ∀ a w, ¬ I 0 a w)
    (round : ∀ k a w, I (k + 1) a w → c.wp P (Exit.then (I k) Q) a w) : GC P N e (.loop c) Q w := by
  intro a ha
  refine wp_loop (fun a w => ∃ k, I k a w) (fun a w => Classical.epsilon (fun k => I k a w ∧ ∀ j, I j a w → k ≤ j)) ⟨k0, h0 a ha⟩ ?_
  have hmin : ∀ a w, (∃ k, I k a w) → ∃ k, I k a w ∧ ∀ j, I j a w → k ≤ j := by
    intro a w ⟨k, hk⟩
    induction k using Nat.strongRecOn with
    | _ k ih =>
      by_cases h : ∃ j, j < k ∧ I j a w
      · obtain ⟨j, hj, hi⟩ := h; exact ih j hj hi
      · exact ⟨k, hk, fun j hj => Nat.le_of_not_lt fun hlt => h ⟨j, hlt, hj⟩⟩
  intro a1 w1 hI
  have hm := Classical.epsilon_spec (hmin a1 w1 hI)
  generalize hk : Classical.epsilon (fun k => I k a1 w1 ∧ ∀ j, I j a1 w1 → k ≤ j) = k at hm
  cases k with
  | zero => exact absurd hm.1 (hz _ _)
  | succ k =>
    refine wp_mono (round k a1 w1 hm.1) ?_
    intro ex a' w' hq
    cases ex with
    | normal =>
      refine ⟨⟨k, hq⟩, ?_⟩
      have h2 := Classical.epsilon_spec (hmin a' w' ⟨k, hq⟩)
      have := h2.2 k hq
      omega
    | _ => exact hq
theorem gl_nil {ops : Array Oper} (h : GK N e (Q .normal) w) : GL P N ops e [] Q w := fun a ha => wpList_nil (h a ha)
/-- One operation that tells a value. -/
theorem gl_step {ops : Array Oper} {o : Oper} {rest : List Oper} {d : Nat} {v : Value} {w' : World} (hd : o.dst = some d) (hN : d < N) (hg : o.guard = none)
    (hrun : ∀ a, Fr N a e → (execOp a.eval o).run P w = .ok (.value v) w') (h : GL P N ops ((d, v) :: e) rest Q w') : GL P N ops e (o :: rest) Q w := by
  intro a ha
  refine wpList_plain hg fun K hK => ?_
  unfold Oper.wp
  rw [hrun a ha]
  show K (a.put o.dst v) w'
  rw [hd]
  exact hK _ _ (h _ (ha.put hN v))
/-- One that tells nothing (a store). -/
theorem gl_act {ops : Array Oper} {o : Oper} {rest : List Oper} {w' : World} (hd : o.dst = none) (hg : o.guard = none)
    (hrun : ∀ a, Fr N a e → (execOp a.eval o).run P w = .ok .skip w') (h : GL P N ops e rest Q w') : GL P N ops e (o :: rest) Q w := by
  intro a ha
  refine wpList_plain hg fun K hK => ?_
  unfold Oper.wp
  rw [hrun a ha]
  show K (a.put o.dst undef) w'
  rw [hd]
  exact hK _ _ (h _ ha)
/-- A call of a Go function, by its contract. -/
theorem gl_call {ops : Array Oper} {o : Oper} {rest : List Oper} {d : Nat} {f : FuncId} {vals : Array Value} {R : Ending → World → Prop} (hd : o.dst = some d) (hN : d < N) (hg : o.guard = none)
    (hrun : ∀ a, Fr N a e → (execOp a.eval o).run P w = .ok (.enter f vals) w) (hc : Calls P f vals w R)
    (h : ∀ en w', R en w' → ∃ v, en = .returned v ∧ GL P N ops ((d, v) :: e) rest Q w') : GL P N ops e (o :: rest) Q w := by
  intro a ha
  refine wpList_plain hg fun K hK => ?_
  unfold Oper.wp
  rw [hrun a ha]
  refine hc.mono fun en w' hR => ?_
  obtain ⟨v, rfl, hG⟩ := h en w' hR
  show K (a.put o.dst v) w'
  rw [hd]
  exact hK _ _ (hG _ (ha.put hN v))
theorem yielded_of {a : Act} {ops : Array Oper} {j t : Nat} {b : Bool} (hj : ((ops[j]?).bind (·.dst)) = some t) (ha : Fr N a e) (hl : look e t = some (.bool b)) : yielded ops a.tmps j = some b := by
  have := ha.get t _ hl
  unfold yielded
  revert hj
  cases h : ops[j]? with
  | none => simp
  | some o =>
    simp only [Option.bind_some]
    intro ho
    simp [ho, Array.getD_eq_getD_getElem?, this]
end
end Go.Proofs.YtpeomdobcobdiaaDoor
