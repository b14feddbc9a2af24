/- Our own words: regions that draw their order, walked with what only looks taken first. Nothing here speaks of a statement; no condition. -/
import Derived.Test.YtpeomdobcobdiaaDoorLibS
import Derived.OrdersHeld
namespace Go.Proofs.YtpeomdobcobdiaaDoor
open Go.RowKit
set_option linter.unusedVariables false
set_option linter.unusedSimpArgs false
section
variable {P : Program} {N : Nat} {e : Env} {Q : Exit → Act → World → Prop} {w w0 w' : World} {T : TyTab} {B : Nat} {L : List It} {ops : Array Oper} {S : World → Prop} {fuel : Nat} {listed : Array Bool}
/-- A region that draws its order, from where 'listed' have come up; S holds of every world on the way. -/
def GA (P : Program) (N : Nat) (ops : Array Oper) (S : World → Prop) (e : Env) (fuel : Nat) (listed : Array Bool) (Q : Exit → Act → World → Prop) (w : World) : Prop := ∀ a, Fr N a e → wpAnyH P .any ops Q S fuel listed a w
/-- What follows an operation that was carried out. -/
def nxt (P : Program) (ops : Array Oper) (S : World → Prop) (fuel : Nat) (listed : Array Bool) (Q : Exit → Act → World → Prop) : Act → World → Prop := fun a' w' => S w' ∧ wpAnyH P .any ops Q S fuel listed a' w'
theorem gc_any {i n : Nat} (S : World → Prop) (hm : P.follows .mixedOrders = true) (hn : ops.size = n) (h : ∀ d, GA P N ops S e n (Array.replicate n false) Q (World.dr w d)) : GC P N e (.region i ops true) Q w := by
  intro a ha
  refine wp_region_held (S := S) hm ?_
  rw [hn]
  exact h (w.drawn + 1) a ha
theorem gc_anyS {i n : Nat} (hS : St B w0 w L) (hm : P.follows .mixedOrders = true) (hn : ops.size = n) (h : ∀ d, St B w0 (World.dr w d) L → GA P N ops (fun w1 => St B w0 w1 L) e n (Array.replicate n false) Q (World.dr w d)) : GC P N e (.region i ops true) Q w :=
  gc_any _ hm hn fun d => h d (hS.dr d)
def takeB (ops : Array Oper) (listed : Array Bool) (i : Nat) : Bool := Region.noSelect ops && Region.free .any ops listed i && (Region.ready .any ops listed).contains i
abbrev PanOk (Q : Exit → Act → World → Prop) : Prop := ∀ c a w (d : Nat) v, Q (.panic c) (a.put (some d) v) w → Q (.panic c) a w
theorem ga_take (i : Nat) {o : Oper} {d : Nat} {v : Value} (hi : ops[i]? = some o) (hd : o.dst = some d) (hg : o.guard = none) (hN : Nat.ble (d + 1) N = true) (hok : takeB ops listed i = true) (hQ : PanOk Q) (hS : S w)
    (hr : ∀ w', S w' → OpR P N e w' o v) (h : GA P N ops S ((d, v) :: e) fuel (listed.setIfInBounds i true) Q w) : GA P N ops S e (fuel + 1) listed Q w := by
  intro a ha
  unfold takeB at hok
  simp only [Bool.and_eq_true] at hok
  refine wpAnyH_take hi hok.1.1 hok.1.2 hok.2 (fun c a w hq => ?_) (.inl ⟨by simp [Region.wanted, hg], fun w' hw' => hr w' hw' w'.drawn a ha⟩) hS (v := v) ?_
  · rw [hd] at hq; exact hQ c a w d v hq
  · rw [hd]; exact h _ (ha.put (Nat.le_of_ble_eq_true hN) v)
theorem ga_take_at (i : Nat) {o : Oper} {d : Nat} {v : Value} {j t : Nat} {want b : Bool} (hi : ops[i]? = some o) (hd : o.dst = some d) (hg : o.guard = some (j, want)) (hj : ((ops[j]?).bind (·.dst)) = some t) (hl : look e t = some (.bool b)) (hwant : b = want)
    (hN : Nat.ble (d + 1) N = true) (hok : takeB ops listed i = true) (hQ : PanOk Q) (hS : S w)
    (hr : ∀ w', S w' → OpR P N e w' o v) (h : GA P N ops S ((d, v) :: e) fuel (listed.setIfInBounds i true) Q w) : GA P N ops S e (fuel + 1) listed Q w := by
  intro a ha
  unfold takeB at hok
  simp only [Bool.and_eq_true] at hok
  refine wpAnyH_take hi hok.1.1 hok.1.2 hok.2 (fun c a w hq => ?_) (.inl ⟨by simp [Region.wanted, hg, yielded_of hj ha hl, hwant], fun w' hw' => hr w' hw' w'.drawn a ha⟩) hS (v := v) ?_
  · rw [hd] at hq; exact hQ c a w d v hq
  · rw [hd]; exact h _ (ha.put (Nat.le_of_ble_eq_true hN) v)
theorem ga_pass (i : Nat) {o : Oper} {d : Nat} {j t : Nat} {want b : Bool} (hi : ops[i]? = some o) (hd : o.dst = some d) (hg : o.guard = some (j, want)) (hj : ((ops[j]?).bind (·.dst)) = some t) (hl : look e t = some (.bool b)) (hwant : b = !want)
    (hN : Nat.ble (d + 1) N = true) (hok : takeB ops listed i = true) (hQ : PanOk Q) (hS : S w) (h : GA P N ops S ((d, undef) :: e) fuel (listed.setIfInBounds i true) Q w) : GA P N ops S e (fuel + 1) listed Q w := by
  intro a ha
  unfold takeB at hok
  simp only [Bool.and_eq_true] at hok
  have hw : Region.wanted o (yielded ops a.tmps) = false := by
    subst hwant
    cases want <;> simp [Region.wanted, hg, yielded_of hj ha hl]
  refine wpAnyH_take hi hok.1.1 hok.1.2 hok.2 (fun c a w hq => ?_) (.inr ⟨hw, rfl⟩) hS (v := undef) ?_
  · rw [hd] at hq; exact hQ c a w d undef hq
  · rw [hd]; exact h _ (ha.put (Nat.le_of_ble_eq_true hN) undef)
theorem ga_none (i : Nat) {o : Oper} {d : Nat} {j t : Nat} {want : Bool} (hi : ops[i]? = some o) (hd : o.dst = some d) (hg : o.guard = some (j, want)) (hj : ((ops[j]?).bind (·.dst)) = some t) (hl : look e t = some undef)
    (hN : Nat.ble (d + 1) N = true) (hok : takeB ops listed i = true) (hQ : PanOk Q) (hS : S w) (h : GA P N ops S ((d, undef) :: e) fuel (listed.setIfInBounds i true) Q w) : GA P N ops S e (fuel + 1) listed Q w := by
  intro a ha
  unfold takeB at hok
  simp only [Bool.and_eq_true] at hok
  have hw : Region.wanted o (yielded ops a.tmps) = false := by simp [Region.wanted, hg, yielded_none hj ha hl]
  refine wpAnyH_take hi hok.1.1 hok.1.2 hok.2 (fun c a w hq => ?_) (.inr ⟨hw, rfl⟩) hS (v := undef) ?_
  · rw [hd] at hq; exact hQ c a w d undef hq
  · rw [hd]; exact h _ (ha.put (Nat.le_of_ble_eq_true hN) undef)
theorem ga_split {t : Nat} {b : Bool} (hb : look e t = some (.bool b)) (h1 : b = true → GA P N ops S ((t, .bool true) :: e) fuel listed Q w) (h2 : b = false → GA P N ops S ((t, .bool false) :: e) fuel listed Q w) : GA P N ops S e fuel listed Q w := by
  intro a ha
  cases b with
  | true => exact h1 rfl a (ha.spell hb rfl)
  | false => exact h2 rfl a (ha.spell hb rfl)
theorem ga_spell (t : Nat) {u v : Value} (hu : look e t = some u) (huv : u = v) (h : GA P N ops S ((t, v) :: e) fuel listed Q w) : GA P N ops S e fuel listed Q w :=
  fun a ha => h a (ha.spell hu huv)
theorem wpOp_of_list {i : Nat} {o : Oper} {a : Act} {K : Act → World → Prop} (hi : ops[i]? = some o) (h : wpList P ops (Exit.then K Q) [o] a w) : wpOp P ops Q i K a w := by
  unfold wpOp
  rw [hi]
  unfold wpList at h
  split at h
  · rename_i hw
    simp only [hw, if_true]
    rcases h with h | ⟨h1, h2⟩
    · refine .inl ?_
      unfold Oper.wp at h ⊢
      generalize (execOp a.eval o).run P w = r at h ⊢
      cases r with
      | ok n w' =>
        cases n <;> simp only [Oper.upon] at h ⊢ <;>
          first
            | exact h
            | exact Calls.mono h (fun e w'' he => by cases e <;> first | exact he | exact he)
            | exact Rows.mono h (fun _ _ he => he)
      | halt x w' => cases x <;> simp only [Oper.upon] at h ⊢ <;> exact h
    · exact .inr ⟨h1, h2⟩
  · rename_i hw
    simp only [hw]
    exact h
theorem ga_one (i : Nat) {o : Oper} (hr : Region.ready .any ops listed = [i]) (hi : ops[i]? = some o) (h : GL P N ops e [o] (Exit.then (nxt P ops S fuel (listed.setIfInBounds i true) Q) Q) w) : GA P N ops S e (fuel + 1) listed Q w := by
  intro a ha
  refine wpAnyH_all hr (by simp) fun j hj => ?_
  simp only [List.mem_singleton] at hj
  subst hj
  exact wpOp_of_list hi (h a ha)
theorem ga_two (i j : Nat) {o o2 : Oper} (hr : Region.ready .any ops listed = [i, j]) (hi : ops[i]? = some o) (hj : ops[j]? = some o2) (h : GL P N ops e [o] (Exit.then (nxt P ops S fuel (listed.setIfInBounds i true) Q) Q) w)
    (h2 : GL P N ops e [o2] (Exit.then (nxt P ops S fuel (listed.setIfInBounds j true) Q) Q) w) : GA P N ops S e (fuel + 1) listed Q w := by
  intro a ha
  refine wpAnyH_all hr (by simp) fun k hk => ?_
  simp only [List.mem_cons, List.not_mem_nil, or_false] at hk
  rcases hk with rfl | rfl
  · exact wpOp_of_list hi (h a ha)
  · exact wpOp_of_list hj (h2 a ha)
theorem ga_three (i j k : Nat) {o o2 o3 : Oper} (hr : Region.ready .any ops listed = [i, j, k]) (hi : ops[i]? = some o) (hj : ops[j]? = some o2) (hk : ops[k]? = some o3) (h : GL P N ops e [o] (Exit.then (nxt P ops S fuel (listed.setIfInBounds i true) Q) Q) w)
    (h2 : GL P N ops e [o2] (Exit.then (nxt P ops S fuel (listed.setIfInBounds j true) Q) Q) w) (h3 : GL P N ops e [o3] (Exit.then (nxt P ops S fuel (listed.setIfInBounds k true) Q) Q) w) : GA P N ops S e (fuel + 1) listed Q w := by
  intro a ha
  refine wpAnyH_all hr (by simp) fun m hm => ?_
  simp only [List.mem_cons, List.not_mem_nil, or_false] at hm
  rcases hm with rfl | rfl | rfl
  · exact wpOp_of_list hi (h a ha)
  · exact wpOp_of_list hj (h2 a ha)
  · exact wpOp_of_list hk (h3 a ha)
theorem ga_next (hS : S w) (h : S w → GA P N ops S e fuel listed Q w) : GK N e (Exit.then (nxt P ops S fuel listed Q) Q .normal) w := fun a ha => ⟨hS, h hS a ha⟩
theorem ga_done (hr : (Region.ready .any ops listed).isEmpty = true) (h : GK N e (Q .normal) w) : GA P N ops S e fuel listed Q w := fun a ha => wpAnyH_done (by simpa using hr) (h a ha) fuel
/-- An item that is not told of. -/
def blank (w0 : World) : It := .keep (fun _ => False) w0
theorem St.blank (h : St B w0 w L) (i : Nat) : St B w0 w (L.set i (blank w0)) := by
  rcases Nat.lt_or_ge i L.length with hi | hi
  · have hl : L[i]? = some L[i] := List.getElem?_eq_getElem hi
    exact h.update hl rfl rfl rfl (Nat.le_refl _) (fun _ _ _ => rfl) (fun b hb => hb.elim) (fun b hb => hb.elim)
  · rw [List.set_eq_of_length_le hi]; exact h
theorem St.pre (h : St B w0 w L) (n : Nat) : St B w0 w (L.take n) := h.sub (List.take_sublist n L)
end
end Go.Proofs.YtpeomdobcobdiaaDoor
