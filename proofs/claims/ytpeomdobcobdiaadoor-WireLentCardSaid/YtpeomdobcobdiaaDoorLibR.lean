/- Our own words: regions that draw their order and whose operations make memory: each operation's outcome told by itself, whatever order is drawn. Nothing here speaks of a statement; no condition. -/
import Derived.Test.YtpeomdobcobdiaaDoorLibH
import Derived.Orders
namespace Go.Proofs.YtpeomdobcobdiaaDoor
open Go.RowKit
set_option linter.unusedVariables false
set_option linter.unusedSimpArgs false
section
variable {P : Program} {N : Nat} {Q : Exit → Act → World → Prop}
/-- A region by an invariant of what has come up. -/
theorem wpAny_inv {ops : Array Oper} (I : Array Bool → Act → World → Prop) (hsize : ∀ l a w, I l a w → l.size = ops.size)
    (step : ∀ l a w i, I l a w → i ∈ Region.ready .any ops l → wpOp P ops Q i (I (l.setIfInBounds i true)) a w)
    (done : ∀ l a w, I l a w → Region.ready .any ops l = [] → Q .normal a w) :
    ∀ (fuel : Nat) (l : Array Bool) (a : Act) (w : World), (l.toList.filter (fun b => !b)).length ≤ fuel → I l a w → wpAny P .any ops Q fuel l a w := by
  have hready : ∀ (l : Array Bool) i, i ∈ Region.ready .any ops l → i < l.size ∧ l[i]? = some false := by
    intro l i hi
    have h0 := (mem_ready.1 hi).1
    rw [Array.getD_eq_getD_getElem?] at h0
    cases h : l[i]? with
    | none => rw [h] at h0; simp at h0
    | some b => rw [h] at h0; simp at h0; subst h0; exact ⟨(Array.getElem?_eq_some_iff.1 h).1, rfl⟩
  have hcount : ∀ (m : List Bool) i, m[i]? = some false → ((m.set i true).filter (fun b => !b)).length + 1 = (m.filter (fun b => !b)).length := by
    intro m
    induction m with
    | nil => intro i h; simp at h
    | cons x m ih =>
      intro i h
      cases i with
      | zero => simp at h; subst h; simp
      | succ i =>
        simp only [List.getElem?_cons_succ] at h
        have := ih i h
        cases x <;> simp [List.set_cons_succ, List.filter_cons] <;> omega
  intro fuel
  induction fuel with
  | zero =>
    intro l a w hc hI
    have hr : Region.ready .any ops l = [] := by
      rw [List.eq_nil_iff_forall_not_mem]
      intro i hi
      have h1 := (hready l i hi).2
      have := hcount l.toList i (by rw [Array.getElem?_toList]; exact h1)
      omega
    exact ⟨hr, done l a w hI hr⟩
  | succ fuel ih =>
    intro l a w hc hI
    refine ⟨fun hr => done l a w hI hr, fun i hi => wpOp_mono (fun a' w' hI' => ih _ a' w' ?_ hI') (step l a w i hI hi)⟩
    have h1 := (hready l i hi).2
    have := hcount l.toList i (by rw [Array.getElem?_toList]; exact h1)
    rw [Array.toList_setIfInBounds]
    omega
/-- What an operation does: a value, or a call. -/
def GYa (P : Program) (a : Act) (w : World) (o : Oper) (K : Value → World → Prop) : Prop :=
  (∃ v w', (execOp a.eval o).run P w = .ok (.value v) w' ∧ K v w') ∨
  (∃ f vals, (execOp a.eval o).run P w = .ok (.enter f vals) w ∧ Calls P f vals w (fun en w' => ∃ v, en = .returned v ∧ K v w'))
theorem wpOp_of_gy {ops : Array Oper} {i : Nat} {o : Oper} {a : Act} {w : World} {K : Act → World → Prop} {KV : Value → World → Prop} (ho : ops[i]? = some o) (hg : o.guard = none)
    (h : GYa P a w o KV) (hk : ∀ v w', KV v w' → K (a.put o.dst v) w') : wpOp P ops Q i K a w := by
  unfold wpOp
  rw [ho]
  simp only [Region.wanted, hg, if_true]
  refine .inl ?_
  unfold Oper.wp
  rcases h with ⟨v, w', hr, hK⟩ | ⟨f, vals, hr, hc⟩
  · rw [hr]; exact hk v w' hK
  · rw [hr]
    refine hc.mono fun en w' ⟨v, he, hK⟩ => ?_
    subst he
    exact hk v w' hK
/-- What is known of an operation that has come up: its value, or what its value is like. -/
inductive Inf where
  | det (v : Value)
  | nd (G : Value → World → Prop)
def Inf.holds : Inf → Value → World → Prop
  | .det v, u, _ => u = v
  | .nd G, u, w => G u w
/-- Facts that stay when memory grows. -/
def Stays (G : Value → World → Prop) : Prop := ∀ u w w', Below w.heap.size w w' → G u w → G u w'
def Inf.stays : Inf → Prop
  | .det _ => True
  | .nd G => Stays G
theorem Inf.keep {x : Inf} (h : x.stays) {u : Value} {w w' : World} (hb : Below w.heap.size w w') (hx : x.holds u w) : x.holds u w' := by
  cases x with
  | det v => exact hx
  | nd G => exact h u w w' hb hx
abbrev Infs := List (Nat × Inf)
def infOf : Infs → Nat → Option Inf
  | [], _ => none
  | (k, x) :: r, t => bif Nat.beq k t then some x else infOf r t
/-- The slots that are known whole. -/
def detEnv : Infs → Env
  | [] => []
  | (k, .det v) :: r => (k, v) :: detEnv r
  | (_, .nd _) :: r => detEnv r
def keysApart (e0 : Env) (ops : List Oper) : Bool := e0.all fun p => ops.all fun o => match o.dst with | some d => !Nat.beq p.1 d | none => true
def dstsApart : List Oper → Bool
  | [] => true
  | o :: r => (match o.dst with
    | some d => r.all fun o' => (match o'.dst with
      | some d' => !Nat.beq d d'
      | none => true)
    | none => false) && dstsApart r
/-- The slots that an operation waits for. -/
def waitsFor (ops : Array Oper) (o : Oper) (t : Nat) : Prop := ∃ ed ∈ o.after, Region.binds .any ed = true ∧ ((ops[ed.on]?).bind (·.dst)) = some t
/-- The region's operations still to be told of; D: the ones told of. -/
def GG (P : Program) (N : Nat) (ops : Array Oper) (w : World) (e0 : Env) (Q : Exit → Act → World → Prop) : List Oper → Infs → Prop
  | [], D => ∀ a w1, Fr N a e0 → Below w.heap.size w w1 → (∀ t y, infOf D t = some y → ∃ u, a.tmps[t]? = some u ∧ y.holds u w1) → Q .normal a w1
  | o :: rest, D => ∃ d x, o.dst = some d ∧ o.guard = none ∧ x.stays ∧ Nat.ble (d + 1) N = true ∧
      (∀ a w1, Fr N a e0 → Below w.heap.size w w1 → (∀ t y, infOf D t = some y → waitsFor ops o t → ∃ u, a.tmps[t]? = some u ∧ y.holds u w1) →
        GYa P a w1 o (fun v w2 => Below w1.heap.size w1 w2 ∧ x.holds v w2)) ∧ GG P N ops w e0 Q rest ((d, x) :: D)
theorem infOf_cons {D : Infs} {d t : Nat} {x y : Inf} (h : infOf ((d, x) :: D) t = some y) : (d = t ∧ y = x) ∨ (d ≠ t ∧ infOf D t = some y) := by
  unfold infOf at h
  by_cases hd : d = t
  · subst hd; simp at h; exact .inl ⟨rfl, h.symm⟩
  · have : Nat.beq d t = false := by rw [Bool.eq_false_iff]; exact fun hb => hd (Nat.eq_of_beq_eq_true hb)
    rw [this] at h
    exact .inr ⟨hd, by simpa using h⟩
theorem infOf_put {D : Infs} {d t : Nat} {x : Inf} : infOf ((d, x) :: D) t = if d = t then some x else infOf D t := by
  show (bif Nat.beq d t then some x else infOf D t) = _
  by_cases hd : d = t
  · subst hd; simp
  · have : Nat.beq d t = false := by rw [Bool.eq_false_iff]; exact fun hb => hd (Nat.eq_of_beq_eq_true hb)
    rw [this]; simp [hd]
theorem GG.full {ops : Array Oper} {w : World} {e0 : Env} : ∀ {rest : List Oper} {D : Infs}, GG P N ops w e0 Q rest D → dstsApart rest = true → (∀ o ∈ rest, ∀ d, o.dst = some d → infOf D d = none) →
    ∃ F : Infs, (∀ t y, infOf D t = some y → infOf F t = some y) ∧
      (∀ a w1, Fr N a e0 → Below w.heap.size w w1 → (∀ t y, infOf F t = some y → ∃ u, a.tmps[t]? = some u ∧ y.holds u w1) → Q .normal a w1) ∧
      (∀ t y, infOf F t = some y → infOf D t = some y ∨ ∃ o ∈ rest, o.dst = some t) ∧
      ∀ o ∈ rest, ∃ d x, o.dst = some d ∧ o.guard = none ∧ x.stays ∧ d < N ∧ infOf F d = some x ∧
        ∀ a w1, Fr N a e0 → Below w.heap.size w w1 → (∀ t y, infOf F t = some y → waitsFor ops o t → ∃ u, a.tmps[t]? = some u ∧ y.holds u w1) →
          GYa P a w1 o (fun v w2 => Below w1.heap.size w1 w2 ∧ x.holds v w2) := by
  intro rest
  induction rest with
  | nil => intro D h _ _; exact ⟨D, fun _ _ h => h, h, fun _ _ h => .inl h, fun o ho => (List.not_mem_nil ho).elim⟩
  | cons o rest ih =>
    intro D h ha hn
    obtain ⟨d, x, hd, hg, hs, hN, hstep, hrest⟩ := h
    have ha2 : dstsApart rest = true ∧ ∀ o' ∈ rest, ∀ d', o'.dst = some d' → d ≠ d' := by
      unfold dstsApart at ha
      rw [hd] at ha
      simp only [Bool.and_eq_true, List.all_eq_true] at ha
      refine ⟨ha.2, fun o' ho' d' hd' he => ?_⟩
      have := ha.1 o' ho'
      rw [hd'] at this
      subst he
      simp at this
    obtain ⟨F, f1, f2, f3, f4⟩ := ih hrest ha2.1 (fun o' ho' d' hd' => by
      rw [infOf_put, if_neg (ha2.2 o' ho' d' hd')]; exact hn o' (List.mem_cons_of_mem _ ho') d' hd')
    have hdn := hn o List.mem_cons_self d hd
    refine ⟨F, fun t y h => f1 t y ?_, f2, fun t y h => ?_, fun o' ho' => ?_⟩
    · rw [infOf_put, if_neg (fun e => by subst e; rw [hdn] at h; cases h)]; exact h
    · rcases f3 t y h with h | ⟨o', ho', h⟩
      · rcases infOf_cons h with ⟨rfl, _⟩ | ⟨_, h⟩
        · exact .inr ⟨o, List.mem_cons_self, hd⟩
        · exact .inl h
      · exact .inr ⟨o', List.mem_cons_of_mem _ ho', h⟩
    · rcases List.mem_cons.1 ho' with rfl | ho'
      · refine ⟨d, x, hd, hg, hs, Nat.le_of_ble_eq_true hN, f1 d x (by rw [infOf_put, if_pos rfl]), fun a w1 hF hb hdep => hstep a w1 hF hb fun t y h hw => hdep t y (f1 t y ?_) hw⟩
        rw [infOf_put, if_neg (fun e => by subst e; rw [hdn] at h; cases h)]; exact h
      · exact f4 o' ho'
theorem Fr.put_far {a : Act} {e : Env} (h : Fr N a e) {d : Nat} (v : Value) (hd : ∀ p ∈ e, p.1 ≠ d) : Fr N (a.put (some d) v) e := by
  refine ⟨h.defers, by simp [Act.put, h.size], fun t u hu => ?_⟩
  have hne : t ≠ d := by
    intro he
    subst he
    have : ∀ (e : Env), (∀ p ∈ e, p.1 ≠ t) → look e t = none := by
      intro e
      induction e with
      | nil => intro _; rfl
      | cons p r ih =>
        intro hp
        obtain ⟨k, x⟩ := p
        have hk := hp (k, x) List.mem_cons_self
        have : Nat.beq k t = false := by rw [Bool.eq_false_iff]; exact fun hb => hk (Nat.eq_of_beq_eq_true hb)
        unfold look
        rw [this]
        exact ih fun p hp' => hp p (List.mem_cons_of_mem _ hp')
    rw [this e hd] at hu; cases hu
  have := h.get t u hu
  simp [Act.put, Array.getElem?_setIfInBounds, Ne.symm hne, this]
theorem below_trans {w w1 w2 : World} (h1 : Below w.heap.size w w1) (h2 : Below w1.heap.size w1 w2) : Below w.heap.size w w2 := by
  have hs := h1.size
  exact ⟨h2.os.trans h1.os, h2.tape.trans h1.tape, h2.output.trans h1.output, Nat.le_trans hs h2.size, fun k hk => (h2.block k (by omega)).trans (h1.block k hk)⟩
theorem below_dr (w : World) (n : Nat) : Below w.heap.size w (World.dr w n) := ⟨rfl, rfl, rfl, Nat.le_refl _, fun _ _ => rfl⟩
/-- Each operation waits for earlier ones alone. -/
def inOrder (ops : Array Oper) : Bool := ops.toList.zipIdx.all fun p => p.1.after.all fun ed => Nat.blt ed.on p.2
theorem gc_grow {i : Nat} {ops : Array Oper} {e e0 : Env} {w : World} (hm : P.follows .mixedOrders = true) (he : subEnv e e0) (hk : keysApart e0 ops.toList = true) (hd : dstsApart ops.toList = true) (hord : inOrder ops = true)
    (h : GG P N ops w e0 Q ops.toList []) : GC P N e (.region i ops true) Q w := by
  intro a ha
  obtain ⟨F, _, f2, f3, f4⟩ := h.full hd (fun o _ d _ => rfl)
  have hkey : ∀ o ∈ ops.toList, ∀ d, o.dst = some d → ∀ p ∈ e0, p.1 ≠ d := by
    intro o ho d hd p hp he
    unfold keysApart at hk
    simp only [List.all_eq_true] at hk
    have := hk p hp o ho
    rw [hd] at this
    subst he
    simp at this
  have hdist : ∀ (l : List Oper), dstsApart l = true → ∀ (i j : Nat) o1 o2 d, l[i]? = some o1 → l[j]? = some o2 → o1.dst = some d → o2.dst = some d → i = j := by
    intro l
    induction l with
    | nil => intro _ i j o1 o2 d h; simp at h
    | cons x l ih =>
      intro hl i j o1 o2 d h1 h2 g1 g2
      unfold dstsApart at hl
      simp only [Bool.and_eq_true] at hl
      cases i with
      | zero =>
        cases j with
        | zero => rfl
        | succ j =>
          simp at h1; subst h1
          rw [g1] at hl
          have := List.all_eq_true.1 hl.1 o2 (List.mem_of_getElem? (by simpa using h2))
          rw [g2] at this; simp at this
      | succ i =>
        cases j with
        | zero =>
          simp at h2; subst h2
          rw [g2] at hl
          have := List.all_eq_true.1 hl.1 o1 (List.mem_of_getElem? (by simpa using h1))
          rw [g1] at this; simp at this
        | succ j => rw [ih hl.2 i j o1 o2 d (by simpa using h1) (by simpa using h2) g1 g2]
  refine wp_region_any hm (wpAny_inv (fun l a w1 => l.size = ops.size ∧ Fr N a e0 ∧ Below w.heap.size w w1 ∧ ∀ i o d x, l.getD i false = true → ops[i]? = some o → o.dst = some d → infOf F d = some x → ∃ u, a.tmps[d]? = some u ∧ x.holds u w1)
    (fun l a w h => h.1) ?_ ?_ _ _ a _ ?_ ?_)
  · rintro l a w1 i ⟨hl, hF, hb, hI⟩ hi
    obtain ⟨hun, o, ho, hdeps⟩ := mem_ready.1 hi
    have hom : o ∈ ops.toList := List.mem_of_getElem? (by rw [Array.getElem?_toList]; exact ho)
    obtain ⟨d, x, hod, hog, hxs, hdN, hFd, hst⟩ := f4 o hom
    refine wpOp_of_gy ho hog (hst a w1 hF hb fun t y hty hw => ?_) fun v w2 ⟨hb2, hx⟩ => ?_
    · obtain ⟨ed, hed, hbd, hdt⟩ := hw
      obtain ⟨o2, ho2, hd2⟩ := Option.bind_eq_some_iff.1 hdt
      exact hI ed.on o2 t y (hdeps ed hed hbd) ho2 hd2 hty
    · rw [hod]
      refine ⟨by simpa using hl, hF.put_far v (hkey o hom d hod), below_trans hb hb2, fun i2 o2 d2 x2 hl2 ho2 hd2 hx2 => ?_⟩
      by_cases hii : i = i2
      · subst hii
        have : o2 = o := Option.some.inj (ho2.symm.trans ho)
        subst this
        have : d2 = d := Option.some.inj (hd2.symm.trans hod)
        subst this
        have : x2 = x := Option.some.inj (hx2.symm.trans hFd)
        subst this
        exact ⟨v, by simp [Act.put, hF.size, hdN], hx⟩
      · have hl3 : l.getD i2 false = true := by rw [getD_set_ne false hii] at hl2; exact hl2
        obtain ⟨u, hu, hxu⟩ := hI i2 o2 d2 x2 hl3 ho2 hd2 hx2
        have hdd : d ≠ d2 := fun e => hii (hdist ops.toList hd i i2 o o2 d (by rw [Array.getElem?_toList]; exact ho) (by rw [Array.getElem?_toList]; exact ho2) hod (by rw [hd2, e]))
        obtain ⟨d3, x3, g1, _, g3, _, g5, _⟩ := f4 o2 (List.mem_of_getElem? (by rw [Array.getElem?_toList]; exact ho2))
        have : d3 = d2 := Option.some.inj (g1.symm.trans hd2)
        subst this
        have : x3 = x2 := Option.some.inj (g5.symm.trans hx2)
        subst this
        exact ⟨u, by simp [Act.put, Array.getElem?_setIfInBounds, hdd, hu], Inf.keep g3 hb2 hxu⟩
  · rintro l a w1 ⟨hl, hF, hb, hI⟩ hr
    refine f2 a w1 hF hb fun t y hty => ?_
    rcases f3 t y hty with h | ⟨o, ho, hot⟩
    · cases h
    · obtain ⟨i, hi⟩ := List.getElem?_of_mem ho
      rw [Array.getElem?_toList] at hi
      have hall : ∀ n, ∀ j, j < n → j < ops.size → l.getD j false = true := by
        intro n
        induction n with
        | zero => intro j hj; omega
        | succ n ih =>
          intro j hj hjs
          by_cases hjn : j < n
          · exact ih j hjn hjs
          · obtain rfl : j = n := by omega
            have hjl : j < l.size := by omega
            have hlj : l[j]? = some (l[j]) := Array.getElem?_eq_getElem hjl
            cases hb3 : l[j] with
            | true => rw [Array.getD_eq_getD_getElem?, hlj, hb3]; rfl
            | false =>
              exfalso
              have hmem : j ∈ Region.ready .any ops l := mem_ready.2 ⟨by rw [Array.getD_eq_getD_getElem?, hlj, hb3]; rfl, ops[j], Array.getElem?_eq_getElem hjs, fun ed hed _ => by
                have h5 : (ops[j], j) ∈ ops.toList.zipIdx := by
                  rw [List.mem_zipIdx_iff_getElem?]; simp [hjs]
                have h6 := List.all_eq_true.1 hord _ h5
                have h7 := Array.all_eq_true_iff_forall_mem.1 h6 ed hed
                have h8 : ed.on < j := by simpa [Nat.blt_eq] using h7
                exact ih ed.on h8 (by omega)⟩
              rw [hr] at hmem; cases hmem
      exact hI i o t y (hall (i + 1) i (by omega) (Array.getElem?_eq_some_iff.1 hi).1) hi hot hty
  · simp
  · refine ⟨by simp, ha.sub he, ⟨rfl, rfl, rfl, Nat.le_refl _, fun _ _ => rfl⟩, fun i2 o2 d2 x2 hl2 => ?_⟩
    rw [Array.getD_eq_getD_getElem?, Array.getElem?_replicate] at hl2
    split at hl2 <;> simp at hl2
/-- All wait, directly or through others, upon which the last one waits. -/
def reachB (ops : Array Oper) : Nat → List Nat → List Nat
  | 0, S => S
  | n + 1, S => reachB ops n (if S.contains n then S ++ ((ops[n]?).map fun o => (o.after.toList.filter fun ed => Region.binds .any ed).map (·.on)).getD [] else S)
def coversB (ops : Array Oper) : Bool := (List.range ops.size).all fun i => (reachB ops ops.size [ops.size - 1]).contains i
theorem reach_listed {ops : Array Oper} {l : Array Bool} (hdc : ∀ (i : Nat) (o : Oper), l.getD i false = true → ops[i]? = some o → ∀ ed ∈ o.after, Region.binds .any ed = true → l.getD ed.on false = true) :
    ∀ n S, (∀ i ∈ S, l.getD i false = true) → ∀ i ∈ reachB ops n S, l.getD i false = true := by
  intro n
  induction n with
  | zero => intro S h; exact h
  | succ n ih =>
    intro S h
    unfold reachB
    refine ih _ ?_
    split
    · rename_i hc
      intro i hi
      rcases List.mem_append.1 hi with hi | hi
      · exact h i hi
      · cases ho : ops[n]? with
        | none => rw [ho] at hi; simp at hi
        | some o =>
          rw [ho] at hi
          simp only [Option.map_some, Option.getD_some, List.mem_map, List.mem_filter] at hi
          obtain ⟨ed, ⟨h1, h2⟩, rfl⟩ := hi
          exact hdc n o (h n (by simpa using hc)) ho ed (by simpa using h1) h2
    · exact h
/-- A region whose last operation waits for all others: that one may do whatever it likes. -/
theorem gc_grow_last {i : Nat} {ops : Array Oper} {e e0 : Env} {w : World} {init : List Oper} {ol : Oper} (hm : P.follows .mixedOrders = true) (he : subEnv e e0) (hops : ops.toList = init ++ [ol]) (hk : keysApart e0 init = true) (hd : dstsApart init = true) (hord : inOrder ops = true) (hcov : coversB ops = true)
    (h : GG P N ops w e0 (fun _ a w1 => wpList P ops Q [ol] a w1) init []) : GC P N e (.region i ops true) Q w := by
  intro a ha
  obtain ⟨F, _, f2, f3, f4⟩ := h.full hd (fun o _ d _ => rfl)
  have hsz : ops.size = init.length + 1 := by rw [← Array.length_toList, hops]; simp
  have hlast : ops[init.length]? = some ol := by rw [← Array.getElem?_toList, hops]; simp
  have hini : ∀ (j : Nat) (o : Oper), ops[j]? = some o → j ≠ init.length → o ∈ init := by
    intro j o ho hj
    rw [← Array.getElem?_toList, hops] at ho
    rcases Nat.lt_or_ge j init.length with h | h
    · rw [List.getElem?_append_left h] at ho; exact List.mem_of_getElem? ho
    · rw [List.getElem?_eq_none (by simp; omega)] at ho; cases ho
  have hinit : ∀ (j : Nat) (o : Oper), init[j]? = some o → ops[j]? = some o := by
    intro j o ho
    rw [← Array.getElem?_toList, hops, List.getElem?_append_left (List.getElem?_eq_some_iff.1 ho).1]; exact ho
  have hkey : ∀ o ∈ init, ∀ d, o.dst = some d → ∀ p ∈ e0, p.1 ≠ d := by
    intro o ho d hd p hp he
    unfold keysApart at hk
    simp only [List.all_eq_true] at hk
    have := hk p hp o ho
    rw [hd] at this
    subst he
    simp at this
  have hdist : ∀ (l : List Oper), dstsApart l = true → ∀ (i j : Nat) o1 o2 d, l[i]? = some o1 → l[j]? = some o2 → o1.dst = some d → o2.dst = some d → i = j := by
    intro l
    induction l with
    | nil => intro _ i j o1 o2 d h; simp at h
    | cons x l ih =>
      intro hl i j o1 o2 d h1 h2 g1 g2
      unfold dstsApart at hl
      simp only [Bool.and_eq_true] at hl
      cases i with
      | zero =>
        cases j with
        | zero => rfl
        | succ j =>
          simp at h1; subst h1
          rw [g1] at hl
          have := List.all_eq_true.1 hl.1 o2 (List.mem_of_getElem? (by simpa using h2))
          rw [g2] at this; simp at this
      | succ i =>
        cases j with
        | zero =>
          simp at h2; subst h2
          rw [g2] at hl
          have := List.all_eq_true.1 hl.1 o1 (List.mem_of_getElem? (by simpa using h1))
          rw [g1] at this; simp at this
        | succ j => rw [ih hl.2 i j o1 o2 d (by simpa using h1) (by simpa using h2) g1 g2]
  have hcovers : ∀ l : Array Bool, (∀ (i : Nat) (o : Oper), l.getD i false = true → ops[i]? = some o → ∀ ed ∈ o.after, Region.binds .any ed = true → l.getD ed.on false = true) → l.getD init.length false = true → ∀ j, j < ops.size → l.getD j false = true := by
    intro l hdc hll j hj
    unfold coversB at hcov
    have := List.all_eq_true.1 hcov j (List.mem_range.2 hj)
    refine reach_listed hdc ops.size [ops.size - 1] ?_ j (by simpa using this)
    intro i hi
    simp only [List.mem_singleton] at hi
    subst hi
    rw [hsz]; simpa using hll
  refine wp_region_any hm (wpAny_inv (fun l a w1 => l.size = ops.size ∧ (∀ (i : Nat) (o : Oper), l.getD i false = true → ops[i]? = some o → ∀ ed ∈ o.after, Region.binds .any ed = true → l.getD ed.on false = true) ∧
      ((l.getD init.length false = false ∧ Fr N a e0 ∧ Below w.heap.size w w1 ∧ ∀ i o d x, l.getD i false = true → ops[i]? = some o → o.dst = some d → infOf F d = some x → ∃ u, a.tmps[d]? = some u ∧ x.holds u w1) ∨ (l.getD init.length false = true ∧ Q .normal a w1)))
    (fun l a w h => h.1) ?_ ?_ _ _ a _ ?_ ?_)
  · rintro l a w1 i ⟨hl, hdc, hcase⟩ hi
    obtain ⟨hun, o, ho, hdeps⟩ := mem_ready.1 hi
    have his : i < ops.size := (Array.getElem?_eq_some_iff.1 ho).1
    have hunf : l.getD i false = false := by
      rw [Array.getD_eq_getD_getElem?] at hun ⊢
      cases hq : l[i]? with
      | none => rfl
      | some b => rw [hq] at hun; simpa using hun
    have hdc' : ∀ (i2 : Nat) (o2 : Oper), (l.setIfInBounds i true).getD i2 false = true → ops[i2]? = some o2 → ∀ ed ∈ o2.after, Region.binds .any ed = true → (l.setIfInBounds i true).getD ed.on false = true := by
      intro i2 o2 h2 ho2 ed hed hbd
      by_cases hii : i = i2
      · subst hii
        have : o2 = o := Option.some.inj (ho2.symm.trans ho)
        subst this
        exact getD_set_true (hdeps ed hed hbd)
      · rw [getD_set_ne false hii] at h2
        exact getD_set_true (hdc i2 o2 h2 ho2 ed hed hbd)
    rcases hcase with ⟨hlu, hF, hb, hI⟩ | ⟨hll, _⟩
    · by_cases hil : i = init.length
      · subst hil
        have hol : o = ol := Option.some.inj (ho.symm.trans hlast)
        subst hol
        have hdcl := hcovers (l.setIfInBounds init.length true) hdc' (by rw [Array.getD_eq_getD_getElem?, Array.getElem?_setIfInBounds]; simp [hl, his])
        have hfin : wpList P ops Q [o] a w1 := by
          refine f2 a w1 hF hb fun t y hty => ?_
          rcases f3 t y hty with h | ⟨o3, ho3, hot⟩
          · cases h
          · obtain ⟨j, hj⟩ := List.getElem?_of_mem ho3
            have hjlt := (List.getElem?_eq_some_iff.1 hj).1
            have hlj := hdcl j (by omega)
            rw [getD_set_ne false (by omega)] at hlj
            exact hI j o3 t y hlj (hinit j o3 hj) hot hty
        have hop : wpOp P ops Q init.length (fun a' w' => Q .normal a' w') a w1 := by
          unfold wpOp
          rw [ho]
          unfold wpList at hfin
          split at hfin
          · rename_i hw; simp only [hw, if_true]; exact hfin
          · rename_i hw; simp only [hw]; exact hfin
        refine wpOp_mono (fun a' w' hq => ⟨by simpa using hl, hdc', .inr ⟨?_, hq⟩⟩) hop
        rw [Array.getD_eq_getD_getElem?, Array.getElem?_setIfInBounds]; simp [hl, his]
      · obtain ⟨d, x, hod, hog, hxs, hdN, hFd, hst⟩ := f4 o (hini i o ho hil)
        refine wpOp_of_gy ho hog (hst a w1 hF hb fun t y hty hw => ?_) fun v w2 ⟨hb2, hx⟩ => ?_
        · obtain ⟨ed, hed, hbd, hdt⟩ := hw
          obtain ⟨o2, ho2, hd2⟩ := Option.bind_eq_some_iff.1 hdt
          exact hI ed.on o2 t y (hdeps ed hed hbd) ho2 hd2 hty
        · rw [hod]
          refine ⟨by simpa using hl, hdc', .inl ⟨by rw [getD_set_ne false hil]; exact hlu, hF.put_far v (hkey o (hini i o ho hil) d hod), below_trans hb hb2, fun i2 o2 d2 x2 hl2 ho2 hd2 hx2 => ?_⟩⟩
          by_cases hii : i = i2
          · subst hii
            have : o2 = o := Option.some.inj (ho2.symm.trans ho)
            subst this
            have : d2 = d := Option.some.inj (hd2.symm.trans hod)
            subst this
            have : x2 = x := Option.some.inj (hx2.symm.trans hFd)
            subst this
            exact ⟨v, by simp [Act.put, hF.size, hdN], hx⟩
          · have hl3 : l.getD i2 false = true := by rw [getD_set_ne false hii] at hl2; exact hl2
            have hi2l : i2 ≠ init.length := fun e => by subst e; rw [hlu] at hl3; cases hl3
            obtain ⟨u, hu, hxu⟩ := hI i2 o2 d2 x2 hl3 ho2 hd2 hx2
            have ho2i := hini i2 o2 ho2 hi2l
            have hgi : init[i]? = some o := by
              have := ho; rw [← Array.getElem?_toList, hops] at this
              rw [List.getElem?_append_left (by omega)] at this; exact this
            have hgi2 : init[i2]? = some o2 := by
              have hi2s := (Array.getElem?_eq_some_iff.1 ho2).1
              have := ho2; rw [← Array.getElem?_toList, hops] at this
              rw [List.getElem?_append_left (by omega)] at this; exact this
            have hdd : d ≠ d2 := fun e => hii (hdist init hd i i2 o o2 d hgi hgi2 hod (by rw [hd2, e]))
            obtain ⟨d3, x3, g1, _, g3, _, g5, _⟩ := f4 o2 ho2i
            have : d3 = d2 := Option.some.inj (g1.symm.trans hd2)
            subst this
            have : x3 = x2 := Option.some.inj (g5.symm.trans hx2)
            subst this
            exact ⟨u, by simp [Act.put, Array.getElem?_setIfInBounds, hdd, hu], Inf.keep g3 hb2 hxu⟩
    · have := hcovers l hdc hll i his
      rw [hunf] at this; cases this
  · rintro l a w1 ⟨hl, hdc, hcase⟩ hr
    rcases hcase with ⟨hlu, _⟩ | ⟨_, hq⟩
    · exfalso
      have hall : ∀ n, ∀ j, j < n → j < ops.size → l.getD j false = true := by
        intro n
        induction n with
        | zero => intro j hj; omega
        | succ n ih =>
          intro j hj hjs
          by_cases hjn : j < n
          · exact ih j hjn hjs
          · obtain rfl : j = n := by omega
            have hjl : j < l.size := by omega
            have hlj : l[j]? = some (l[j]) := Array.getElem?_eq_getElem hjl
            cases hb3 : l[j] with
            | true => rw [Array.getD_eq_getD_getElem?, hlj, hb3]; rfl
            | false =>
              exfalso
              have hmem : j ∈ Region.ready .any ops l := mem_ready.2 ⟨by rw [Array.getD_eq_getD_getElem?, hlj, hb3]; rfl, ops[j], Array.getElem?_eq_getElem hjs, fun ed hed _ => by
                have h5 : (ops[j], j) ∈ ops.toList.zipIdx := by
                  rw [List.mem_zipIdx_iff_getElem?]; simp [hjs]
                have h6 := List.all_eq_true.1 hord _ h5
                have h7 := Array.all_eq_true_iff_forall_mem.1 h6 ed hed
                have h8 : ed.on < j := by simpa [Nat.blt_eq] using h7
                exact ih ed.on h8 (by omega)⟩
              rw [hr] at hmem; cases hmem
      have := hall (init.length + 1) init.length (by omega) (by omega)
      rw [hlu] at this; cases this
    · exact hq
  · simp
  · refine ⟨by simp, fun i2 o2 hl2 => ?_, .inl ⟨by simp [hsz], ha.sub he, ⟨rfl, rfl, rfl, Nat.le_refl _, fun _ _ => rfl⟩, fun i2 o2 d2 x2 hl2 => ?_⟩⟩
    · rw [Array.getD_eq_getD_getElem?, Array.getElem?_replicate] at hl2
      split at hl2 <;> simp at hl2
    · rw [Array.getD_eq_getD_getElem?, Array.getElem?_replicate] at hl2
      split at hl2 <;> simp at hl2
/-! ### one operation at a time -/
def depEnv (D : Infs) : List Nat → Env
  | [] => []
  | t :: r => match infOf D t with
    | some (.det v) => (t, v) :: depEnv D r
    | _ => depEnv D r
def waitsB (ops : Array Oper) (o : Oper) (ts : List Nat) : Bool := ts.all fun t => o.after.toList.any fun ed => Region.binds .any ed && (match (ops[ed.on]?).bind (·.dst) with
  | some d => Nat.beq d t
  | none => false)
theorem waitsB_at {ops : Array Oper} {o : Oper} {ts : List Nat} (h : waitsB ops o ts = true) {t : Nat} (ht : t ∈ ts) : waitsFor ops o t := by
  have := List.all_eq_true.1 h t ht
  obtain ⟨ed, hed, h2⟩ := List.any_eq_true.1 this
  simp only [Bool.and_eq_true] at h2
  refine ⟨ed, by simpa using hed, h2.1, ?_⟩
  cases h3 : (ops[ed.on]?).bind (·.dst) with
  | none => rw [h3] at h2; simp at h2
  | some d => rw [h3] at h2; simp at h2; rw [h2.2]
theorem Fr.with {a : Act} {e0 : Env} (h : Fr N a e0) {D : Infs} {w1 : World} : ∀ {ts : List Nat}, (∀ t ∈ ts, ∀ y, infOf D t = some y → ∃ u, a.tmps[t]? = some u ∧ y.holds u w1) → Fr N a (depEnv D ts ++ e0) := by
  intro ts
  induction ts with
  | nil => intro _; exact h
  | cons t r ih =>
    intro hh
    have h2 := ih fun t' ht' => hh t' (List.mem_cons_of_mem _ ht')
    unfold depEnv
    split
    · rename_i v hv
      obtain ⟨u, hu, hx⟩ := hh t List.mem_cons_self _ hv
      have : u = v := hx
      subst this
      refine ⟨h2.defers, h2.size, fun t' x hx => ?_⟩
      rcases look_cons hx with ⟨rfl, rfl⟩ | ⟨_, hx⟩
      · exact hu
      · exact h2.get t' x hx
    · exact h2
theorem dr0 (w : World) : World.dr w w.drawn = w := rfl
variable {w : World} {e0 : Env} {ops : Array Oper}
theorem gg_op {o : Oper} {rest : List Oper} {D : Infs} {d : Nat} {v : Value} (ts : List Nat) (hd : o.dst = some d) (hg : o.guard = none) (hN : Nat.ble (d + 1) N = true) (hw : waitsB ops o ts = true)
    (hop : ∀ w1, Below w.heap.size w w1 → OpR P N (depEnv D ts ++ e0) w1 o v) (h : GG P N ops w e0 Q rest ((d, .det v) :: D)) : GG P N ops w e0 Q (o :: rest) D := by
  refine ⟨d, .det v, hd, hg, trivial, hN, fun a w1 hF hb hdep => .inl ⟨v, w1, ?_, ⟨rfl, rfl, rfl, Nat.le_refl _, fun _ _ => rfl⟩, rfl⟩, h⟩
  have := hop w1 hb w1.drawn a (hF.with fun t ht y hy => hdep t y hy (waitsB_at hw ht))
  rwa [dr0] at this
theorem gg_op1 {o : Oper} {rest : List Oper} {D : Infs} {d : Nat} {v : Value} {G : Value → World → Prop} (tn : Nat) (ts : List Nat) (hn : infOf D tn = some (.nd G)) (hd : o.dst = some d) (hg : o.guard = none) (hN : Nat.ble (d + 1) N = true) (hw : waitsB ops o (tn :: ts) = true)
    (hop : ∀ w1 u, Below w.heap.size w w1 → G u w1 → OpR P N ((tn, u) :: (depEnv D ts ++ e0)) w1 o v) (h : GG P N ops w e0 Q rest ((d, .det v) :: D)) : GG P N ops w e0 Q (o :: rest) D := by
  refine ⟨d, .det v, hd, hg, trivial, hN, fun a w1 hF hb hdep => ?_, h⟩
  obtain ⟨u, hu, hG⟩ := hdep tn _ hn (waitsB_at hw List.mem_cons_self)
  have h2 : Fr N a (depEnv D ts ++ e0) := hF.with fun t ht y hy => hdep t y hy (waitsB_at hw (List.mem_cons_of_mem _ ht))
  refine .inl ⟨v, w1, ?_, ⟨rfl, rfl, rfl, Nat.le_refl _, fun _ _ => rfl⟩, rfl⟩
  have h3 : Fr N a ((tn, u) :: (depEnv D ts ++ e0)) := ⟨h2.defers, h2.size, fun t' x hx => by
    rcases look_cons hx with ⟨rfl, rfl⟩ | ⟨_, hx⟩
    · exact hu
    · exact h2.get t' x hx⟩
  have := hop w1 u hb hG w1.drawn a h3
  rwa [dr0] at this
theorem gg_call {o : Oper} {rest : List Oper} {D : Infs} {d : Nat} {f : FuncId} {xs : List Operand} {tys : Array TypeId} {vs : List Value} {fn : Func} {c : Code} (ts : List Nat) (x : Inf) (hx : x.stays)
    (hd : o.dst = some d) (hg : o.guard = none) (hN : Nat.ble (d + 1) N = true) (hw : waitsB ops o ts = true) (ho : o.op = .call { callee := .value (.func f), args := ⟨xs⟩, argTypes := tys })
    (hf : P.funcs[f]? = some fn) (hb : fn.body = some c) (hname : (fn.name == "runtime.NumGoroutine") = false) (hxs : evArgs (depEnv D ts ++ e0) xs = some vs)
    (hc : ∀ w1, Below w.heap.size w w1 → Calls P f ⟨vs⟩ w1 (fun en w2 => ∃ v, en = .returned v ∧ Below w1.heap.size w1 w2 ∧ x.holds v w2))
    (h : GG P N ops w e0 Q rest ((d, x) :: D)) : GG P N ops w e0 Q (o :: rest) D := by
  refine ⟨d, x, hd, hg, hx, hN, fun a w1 hF hb1 hdep => ?_, h⟩
  have h2 : Fr N a (depEnv D ts ++ e0) := hF.with fun t ht y hy => hdep t y hy (waitsB_at hw ht)
  exact .inr ⟨f, ⟨vs⟩, run_callOp ho hf hb hname hxs h2 w1, hc w1 hb1⟩
theorem gg_call1 {o : Oper} {rest : List Oper} {D : Infs} {d : Nat} {f : FuncId} {xs : List Operand} {tys : Array TypeId} {fn : Func} {c : Code} {G : Value → World → Prop} (tn : Nat) (ts : List Nat) (x : Inf) (hx : x.stays) (hn : infOf D tn = some (.nd G))
    (hd : o.dst = some d) (hg : o.guard = none) (hN : Nat.ble (d + 1) N = true) (hw : waitsB ops o (tn :: ts) = true) (ho : o.op = .call { callee := .value (.func f), args := ⟨xs⟩, argTypes := tys })
    (hf : P.funcs[f]? = some fn) (hb : fn.body = some c) (hname : (fn.name == "runtime.NumGoroutine") = false)
    (hc : ∀ w1 u, Below w.heap.size w w1 → G u w1 → ∃ vs, evArgs ((tn, u) :: (depEnv D ts ++ e0)) xs = some vs ∧ Calls P f ⟨vs⟩ w1 (fun en w2 => ∃ v, en = .returned v ∧ Below w1.heap.size w1 w2 ∧ x.holds v w2))
    (h : GG P N ops w e0 Q rest ((d, x) :: D)) : GG P N ops w e0 Q (o :: rest) D := by
  refine ⟨d, x, hd, hg, hx, hN, fun a w1 hF hb1 hdep => ?_, h⟩
  obtain ⟨u, hu, hG⟩ := hdep tn _ hn (waitsB_at hw List.mem_cons_self)
  have h2 : Fr N a (depEnv D ts ++ e0) := hF.with fun t ht y hy => hdep t y hy (waitsB_at hw (List.mem_cons_of_mem _ ht))
  obtain ⟨vs, hxs, hcc⟩ := hc w1 u hb1 hG
  have h3 : Fr N a ((tn, u) :: (depEnv D ts ++ e0)) := ⟨h2.defers, h2.size, fun t' x hx => by
    rcases look_cons hx with ⟨rfl, rfl⟩ | ⟨_, hx⟩
    · exact hu
    · exact h2.get t' x hx⟩
  exact .inr ⟨f, ⟨vs⟩, run_callOp ho hf hb hname hxs h3 w1, hcc⟩
theorem Rd.grown {w w' : World} {ok : Nat → Prop} {A : Option Addr} {n sz : Nat} {cs : List Value} (hr : Rd w ok A n sz cs) (hb : Below w.heap.size w w') : Rd w' ok A n sz cs := by
  refine ⟨hr.1, fun hn => ?_⟩
  obtain ⟨ad, hA, ho, hc⟩ := hr.2 hn
  refine ⟨ad, hA, ho, fun j u hu => ?_⟩
  have hlt : (ad.add j).block < w.heap.size := World.block_lt_of_cell? w _ (hc j u hu)
  rw [hb.cell hlt]
  exact hc j u hu
theorem RdE.grown {α : Type} {w w' : World} {ok : Nat → Prop} {enc : α → Value} {A : Option Addr} {l : List α} (hr : RdE w ok enc A l) (hb : Below w.heap.size w w') : RdE w' ok enc A l := Rd.grown hr hb
/-- A slice's literal, of what is known whole. -/
def litG (k : Nat) (vs : List Value) : Value → World → Prop := fun u w => ∃ g, u = .slice (some ⟨g, 0, none⟩) k k ∧ Rd w All (some ⟨g, 0, none⟩) k 1 vs
theorem litG_stays (k : Nat) (vs : List Value) : Stays (litG k vs) := fun _ _ _ hb ⟨g, h1, h2⟩ => ⟨g, h1, h2.grown hb⟩
theorem gg_lit {o : Oper} {rest : List Oper} {D : Infs} {d : Nat} {t el : TypeId} {k : Nat} {ps : List (Nat × Operand)} {vs : List Value} {z : Value} {bytes : Nat} {T : TyTab} (ts : List Nat)
    (hT : TabOk P T) (hel : Elem P el z 1 bytes) (hd : o.dst = some d) (hg : o.guard = none) (hN : Nat.ble (d + 1) N = true) (hw : waitsB ops o ts = true) (ho : o.op = .buildSlice t k ⟨ps⟩)
    (ht : tlook T t = some (.slice el)) (hv : evParts (depEnv D ts ++ e0) 0 ps = some vs) (hk : vs.length = k) (hk2 : Nat.ble k 16777216 = true) (h1' : allOne vs = true)
    (h : GG P N ops w e0 Q rest ((d, .nd (litG k vs)) :: D)) : GG P N ops w e0 Q (o :: rest) D := by
  refine ⟨d, .nd (litG k vs), hd, hg, litG_stays k vs, hN, fun a w1 hF hb1 hdep => ?_, h⟩
  have h2 : Fr N a (depEnv D ts ++ e0) := hF.with fun t ht y hy => hdep t y hy (waitsB_at hw ht)
  have hrun := run_lit (N := N) (w := w1) hT hel ho ht hv hk hk2 h1' a h2
  refine .inl ⟨_, _, hrun, ⟨rfl, rfl, rfl, by simp, fun b hb => Below.heap_alloc w1 _ b hb⟩, w1.heap.size, rfl, by rw [hk, Nat.mul_one], fun _ => ⟨_, rfl, trivial, fun j u hu => ?_⟩⟩
  have hadd : (⟨w1.heap.size, 0, none⟩ : Addr).add j = ⟨w1.heap.size, j, none⟩ := by unfold Addr.add; split <;> simp_all
  rw [hadd, cell_of_row _ _ _ _ _ _ (heap_alloc_new w1 _)]
  simpa using hu
theorem op_fit {e : Env} {o : Oper} {T : TyTab} {n : Int} (hT : TabOk P T) (hv : pureOp T e o.op = some (.int .i64 (IntKind.i64.wrap n))) (hb : -9223372036854775808 ≤ n ∧ n ≤ 9223372036854775807) : OpR P N e w o (.int .i64 n) :=
  op_pure hT (hv.trans (by rw [wrap_i64 hb]))
theorem gg_spell {D : Infs} {d : Nat} {u v : Value} {rest : List Oper} (hu : u = v) (h : GG P N ops w e0 Q rest ((d, .det v) :: D)) : GG P N ops w e0 Q rest ((d, .det u) :: D) := hu ▸ h
theorem cellOf {w w1 : World} (hb : Below w.heap.size w w1) {p : Addr} {v : Value} (h : w.cell? p = some v) : w1.cell? p = some v := by
  rw [hb.cell (World.block_lt_of_cell? w _ h)]; exact h
/-- The last operation of such a region. -/
theorem gg_last {D : Infs} {ol : Oper} (ts : List Nat) (h : ∀ w1, Below w.heap.size w w1 → GL P N ops (depEnv D ts ++ e0) [ol] Q w1) : GG P N ops w e0 (fun _ a w1 => wpList P ops Q [ol] a w1) [] D := by
  intro a w1 hF hb hall
  exact h w1 hb a (hF.with fun t ht y hy => hall t y hy)
theorem gg_last1 {D : Infs} {ol : Oper} {G : Value → World → Prop} (tn : Nat) (ts : List Nat) (hn : infOf D tn = some (.nd G)) (h : ∀ w1 u, Below w.heap.size w w1 → G u w1 → GL P N ops ((tn, u) :: (depEnv D ts ++ e0)) [ol] Q w1) : GG P N ops w e0 (fun _ a w1 => wpList P ops Q [ol] a w1) [] D := by
  intro a w1 hF hb hall
  have h2 : Fr N a (depEnv D ts ++ e0) := hF.with fun t ht y hy => hall t y hy
  obtain ⟨u, hu, hG⟩ := hall tn _ hn
  exact h w1 u hb hG a ⟨h2.defers, h2.size, fun t' x hx => by
    rcases look_cons hx with ⟨rfl, rfl⟩ | ⟨_, hx⟩
    · exact hu
    · exact h2.get t' x hx⟩
theorem gg_nil {D : Infs} (ts : List Nat) (h : ∀ w1, Below w.heap.size w w1 → GK N (depEnv D ts ++ e0) (Q .normal) w1) : GG P N ops w e0 Q [] D := by
  intro a w1 hF hb hall
  exact h w1 hb a (hF.with fun t ht y hy => hall t y hy)
end
end Go.Proofs.YtpeomdobcobdiaaDoor
