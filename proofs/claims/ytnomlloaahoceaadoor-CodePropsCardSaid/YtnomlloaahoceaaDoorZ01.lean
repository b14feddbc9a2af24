/- Contracts of functions that CodeProps reaches, and words to say them. No condition. -/
import Derived.Test.YtnomlloaahoceaaDoorZ00
import Derived.Maps.AppendAt
import Derived.Lib.AppendStr
/- Our own words: memory that a call makes and writes, item by item, apart from one another. Nothing here speaks of a statement; no condition. -/
namespace Go.Proofs.YtnomlloaahoceaaDoor
open Go.RowKit
set_option linter.unusedVariables false
set_option linter.unusedSimpArgs false

def Owns (w : World) (B : Nat) (A : Option Addr) (c : Nat) (el : TypeId) (sz m : Nat) (cs : List Value) : Prop :=
  cs.length = m * sz ∧ ((A = none ∧ c = 0 ∧ m = 0) ∨
    ∃ g cap cur, A = some ⟨g, 0, none⟩ ∧ B ≤ g ∧ w.heap[g]? = some (.cells cur el (0, 0)) ∧ m ≤ c ∧ c ≤ cap ∧ cap ≤ maxLen ∧ cur.size = cap * sz ∧ cur.toList.take (m * sz) = cs)
theorem Owns.lt {w : World} {B : Nat} {A : Option Addr} {c : Nat} {el : TypeId} {sz m : Nat} {cs : List Value} (h : Owns w B A c el sz m cs) : ∀ a, A = some a → B ≤ a.block ∧ a.block < w.heap.size := by
  rintro a rfl
  rcases h.2 with ⟨h1, _⟩ | ⟨g, cap, cur, hv, hg, hh, _⟩
  · cases h1
  · injection hv with hv; subst hv
    exact ⟨hg, (Array.getElem?_eq_some_iff.1 hh).1⟩
theorem Owns.cells {w : World} {B : Nat} {A : Option Addr} {c : Nat} {el : TypeId} {sz m : Nat} {cs : List Value} (h : Owns w B A c el sz m cs) {a : Addr} (ha : A = some a) : ∀ j u, cs[j]? = some u → w.cell? (a.add j) = some u := by
  intro j u hu
  rcases h.2 with ⟨h1, _⟩ | ⟨g, cap, cur, hv, hg, hh, _, _, _, _, ht⟩
  · rw [h1] at ha; cases ha
  · rw [hv] at ha; injection ha with ha; subst ha
    have hadd : (⟨g, 0, none⟩ : Addr).add j = ⟨g, j, none⟩ := by unfold Addr.add; split <;> simp_all
    rw [hadd, cell_of_row w g j cur el (0, 0) hh]
    rw [← ht, List.getElem?_take] at hu
    split at hu
    · simpa using hu
    · cases hu
theorem Owns.mono {w : World} {B B' : Nat} {A : Option Addr} {c : Nat} {el : TypeId} {sz m : Nat} {cs : List Value} (h : Owns w B A c el sz m cs) (hB : B' ≤ B) : Owns w B' A c el sz m cs := by
  refine ⟨h.1, ?_⟩
  rcases h.2 with h2 | ⟨g, cap, cur, hv, hg, r⟩
  · exact .inl h2
  · exact .inr ⟨g, cap, cur, hv, by omega, r⟩
theorem Owns.kept {w w' : World} {B : Nat} {A : Option Addr} {c : Nat} {el : TypeId} {sz m : Nat} {cs : List Value} (h : Owns w B A c el sz m cs) (hk : ∀ a, A = some a → w'.heap[a.block]? = w.heap[a.block]?) : Owns w' B A c el sz m cs := by
  refine ⟨h.1, ?_⟩
  rcases h.2 with h2 | ⟨g, cap, cur, hv, hg, hh, r⟩
  · exact .inl h2
  · exact .inr ⟨g, cap, cur, hv, hg, by rw [hk _ hv]; exact hh, r⟩
theorem Owns.clip {w : World} {B : Nat} {A : Option Addr} {c : Nat} {el : TypeId} {sz m : Nat} {cs : List Value} (h : Owns w B A c el sz m cs) {c' : Nat} (h1 : m ≤ c') (h2 : c' ≤ c) : Owns w B A c' el sz m cs := by
  refine ⟨h.1, ?_⟩
  rcases h.2 with ⟨h3, h4, h5⟩ | ⟨g, cap, cur, hv, hg, hh, h3, h4, r⟩
  · exact .inl ⟨h3, by omega, h5⟩
  · exact .inr ⟨g, cap, cur, hv, hg, hh, h1, by omega, r⟩
theorem Owns.cap {w : World} {B : Nat} {A : Option Addr} {c : Nat} {el : TypeId} {sz m : Nat} {cs : List Value} (h : Owns w B A c el sz m cs) : m ≤ c ∧ c ≤ 9223372036854775807 ∧ cs.length = m * sz := by
  rcases h.2 with ⟨_, h2, h3⟩ | ⟨g, cap, cur, hv, hg, hh, h3, h4, h5, _⟩
  · exact ⟨by omega, by omega, h.1⟩
  · simp only [maxLen] at h5; exact ⟨by omega, by omega, h.1⟩
inductive It where
  | row (A : Option Addr) (c : Nat) (el : TypeId) (sz m : Nat) (cs : List Value)
  | blk (g : Nat) (t : TypeId) (cs : List Value)
  | keep (S : Nat → Prop) (w1 : World)
  | obj (g : Nat) (o : Obj)
def It.fp : It → Nat → Prop
  | .row A _ _ _ _ _, b => ∃ a, A = some a ∧ a.block = b
  | .blk g _ _, b => b = g
  | .keep S _, b => S b
  | .obj g _, b => b = g
def It.ok (B : Nat) (w : World) : It → Prop
  | .row A c el sz m cs => Owns w B A c el sz m cs
  | .blk g t cs => B ≤ g ∧ w.heap[g]? = some (.cells ⟨cs⟩ t (0, 0))
  | .keep S w1 => ∀ b, S b → B ≤ b ∧ b < w1.heap.size ∧ b < w.heap.size ∧ w.heap[b]? = w1.heap[b]?
  | .obj g o => B ≤ g ∧ w.heap[g]? = some o
def Apart (L : List It) : Prop := L.Pairwise fun a b => ∀ x, a.fp x → ¬ b.fp x
def Own (B : Nat) (w : World) (L : List It) : Prop := (∀ it ∈ L, it.ok B w) ∧ Apart L
def St (B : Nat) (w0 w : World) (L : List It) : Prop :=
  (w.os = w0.os ∧ w.tape = w0.tape ∧ w.output = w0.output ∧ w0.heap.size ≤ w.heap.size ∧ B ≤ w.heap.size ∧ ∀ k, k < B → w.heap[k]? = w0.heap[k]?) ∧ Own B w L
theorem It.ok_lt {B : Nat} {w : World} {it : It} (h : it.ok B w) {b : Nat} (hb : it.fp b) : B ≤ b ∧ b < w.heap.size := by
  cases it with
  | row A c el sz m cs =>
    obtain ⟨a, ha, rfl⟩ := hb
    exact Owns.lt h a ha
  | blk g t cs =>
    cases hb
    exact ⟨h.1, (Array.getElem?_eq_some_iff.1 h.2).1⟩
  | keep S w1 => exact ⟨(h b hb).1, (h b hb).2.2.1⟩
  | obj g o =>
    cases hb
    exact ⟨h.1, (Array.getElem?_eq_some_iff.1 h.2).1⟩
theorem It.ok_keep {B : Nat} {w w' : World} {it : It} (h : it.ok B w) (hsz : w.heap.size ≤ w'.heap.size) (hk : ∀ b, it.fp b → w'.heap[b]? = w.heap[b]?) : it.ok B w' := by
  cases it with
  | row A c el sz m cs => exact Owns.kept h fun a ha => hk a.block ⟨a, ha, rfl⟩
  | blk g t cs => exact ⟨h.1, (hk g rfl).trans h.2⟩
  | keep S w1 => exact fun b hb => ⟨(h b hb).1, (h b hb).2.1, by have := (h b hb).2.2.1; omega, (hk b hb).trans (h b hb).2.2.2⟩
  | obj g o => exact ⟨h.1, (hk g rfl).trans h.2⟩
section
variable {B : Nat} {w0 w w' : World} {L : List It}
theorem St.start (w : World) : St w.heap.size w w [] := ⟨⟨rfl, rfl, rfl, Nat.le_refl _, Nat.le_refl _, fun _ _ => rfl⟩, ⟨fun it h => (List.not_mem_nil h).elim, List.Pairwise.nil⟩⟩
theorem St.dr (h : St B w0 w L) (n : Nat) : St B w0 (World.dr w n) L := by
  refine ⟨h.1, fun it hi => ?_, h.2.2⟩
  exact It.ok_keep (h.2.1 it hi) (Nat.le_refl _) (fun _ _ => rfl)
theorem St.eqv (h : St B w0 w L) (he : Eqv w w') : St B w0 w' L := by obtain ⟨n, rfl⟩ := he; exact h.dr n
theorem St.below (h : St w0.heap.size w0 w L) : Below w0.heap.size w0 w := ⟨h.1.1, h.1.2.1, h.1.2.2.1, h.1.2.2.2.1, h.1.2.2.2.2.2⟩
theorem St.size (h : St B w0 w L) : B ≤ w.heap.size := h.1.2.2.2.2.1
theorem St.at (h : St B w0 w L) {i : Nat} {it : It} (hi : L[i]? = some it) : it.ok B w := h.2.1 it (List.mem_of_getElem? hi)
theorem Apart.set {L : List It} (h : Apart L) {i : Nat} {it it' : It} (hi : L[i]? = some it) (ok : Nat → Prop) (hf : ∀ b, it'.fp b → it.fp b ∨ ok b)
    (hout : ∀ j it2, L[j]? = some it2 → j ≠ i → ∀ b, it2.fp b → ¬ ok b) : Apart (L.set i it') := by
  induction L generalizing i with
  | nil => simp at hi
  | cons x L ih =>
    obtain ⟨h1, h2⟩ := List.pairwise_cons.1 h
    cases i with
    | zero =>
      simp only [List.getElem?_cons_zero, Option.some.injEq] at hi
      subst hi
      refine List.pairwise_cons.2 ⟨fun y hy b hb hyb => ?_, h2⟩
      obtain ⟨j, hj⟩ := List.getElem?_of_mem hy
      rcases hf b hb with hb | hb
      · exact h1 y hy b hb hyb
      · exact hout (j + 1) y (by simpa using hj) (by omega) b hyb hb
    | succ i =>
      refine List.pairwise_cons.2 ⟨fun y hy b hb hyb => ?_, ih h2 (by simpa using hi) (fun j it2 hj hne b hb => hout (j + 1) it2 (by simpa using hj) (by omega) b hb)⟩
      rcases List.mem_or_eq_of_mem_set hy with hy | rfl
      · exact h1 y hy b hb hyb
      · rcases hf b hyb with hb' | hb'
        · exact h1 it (List.mem_of_getElem? (by simpa using hi)) b hb hb'
        · exact hout 0 x (by simp) (by omega) b hb hb'
theorem St.update (h : St B w0 w L) {i : Nat} {it it' : It} (hi : L[i]? = some it) (hos : w'.os = w.os) (htape : w'.tape = w.tape) (hout : w'.output = w.output) (hsz : w.heap.size ≤ w'.heap.size)
    (hk : ∀ b, b < w.heap.size → ¬ it.fp b → w'.heap[b]? = w.heap[b]?) (hok : it'.ok B w') (hf : ∀ b, it'.fp b → it.fp b ∨ w.heap.size ≤ b) : St B w0 w' (L.set i it') := by
  obtain ⟨⟨g1, g2, g3, g4, g5, g6⟩, g7, g8⟩ := h
  have hap : ∀ j it2, L[j]? = some it2 → j ≠ i → ∀ b, it2.fp b → ¬ it.fp b := by
    intro j it2 hj hne b hb hb'
    rcases Nat.lt_or_gt_of_ne hne with hlt | hgt
    · exact (List.pairwise_iff_getElem.1 g8 j i (List.getElem?_eq_some_iff.1 hj).1 (List.getElem?_eq_some_iff.1 hi).1 hlt) b (by rw [(List.getElem?_eq_some_iff.1 hj).2]; exact hb) (by rw [(List.getElem?_eq_some_iff.1 hi).2]; exact hb')
    · exact (List.pairwise_iff_getElem.1 g8 i j (List.getElem?_eq_some_iff.1 hi).1 (List.getElem?_eq_some_iff.1 hj).1 hgt) b (by rw [(List.getElem?_eq_some_iff.1 hi).2]; exact hb') (by rw [(List.getElem?_eq_some_iff.1 hj).2]; exact hb)
  refine ⟨⟨hos.trans g1, htape.trans g2, hout.trans g3, Nat.le_trans g4 hsz, Nat.le_trans g5 hsz, fun k hk' => (hk k (by omega) fun hb => ?_).trans (g6 k hk')⟩, fun y hy => ?_, ?_⟩
  · have := (It.ok_lt (g7 it (List.mem_of_getElem? hi)) hb).1; omega
  · obtain ⟨j, hj⟩ := List.getElem?_of_mem hy
    rw [List.getElem?_set] at hj
    by_cases hij : i = j
    · rw [if_pos hij] at hj
      split at hj
      · simp only [Option.some.injEq] at hj; subst hj; exact hok
      · cases hj
    · rw [if_neg hij] at hj
      exact It.ok_keep (g7 y (List.mem_of_getElem? hj)) hsz (fun b hb => hk b (It.ok_lt (g7 y (List.mem_of_getElem? hj)) hb).2 (hap j y hj (Ne.symm hij) b hb))
  · refine Apart.set g8 hi (fun b => w.heap.size ≤ b) hf (fun j it2 hj hne b hb hge => ?_)
    have := (It.ok_lt (g7 it2 (List.mem_of_getElem? hj)) hb).2
    omega
theorem St.add (h : St B w0 w L) {it' : It} (hos : w'.os = w.os) (htape : w'.tape = w.tape) (hout : w'.output = w.output) (hsz : w.heap.size ≤ w'.heap.size)
    (hk : ∀ b, b < w.heap.size → w'.heap[b]? = w.heap[b]?) (hok : it'.ok B w') (hf : ∀ b, it'.fp b → w.heap.size ≤ b) : St B w0 w' (L ++ [it']) := by
  obtain ⟨⟨g1, g2, g3, g4, g5, g6⟩, g7, g8⟩ := h
  refine ⟨⟨hos.trans g1, htape.trans g2, hout.trans g3, Nat.le_trans g4 hsz, Nat.le_trans g5 hsz, fun k hk' => (hk k (by omega)).trans (g6 k hk')⟩, fun y hy => ?_, ?_⟩
  · rcases List.mem_append.1 hy with hy | hy
    · exact It.ok_keep (g7 y hy) hsz (fun b hb => hk b (It.ok_lt (g7 y hy) hb).2)
    · simp only [List.mem_singleton] at hy; subst hy; exact hok
  · refine List.pairwise_append.2 ⟨g8, List.pairwise_singleton _ _, fun x hx y hy b hb hyb => ?_⟩
    simp only [List.mem_singleton] at hy
    subst hy
    have := (It.ok_lt (g7 x hx) hb).2
    have := hf b hyb
    omega
theorem St.same (h : St B w0 w L) (hos : w'.os = w.os) (htape : w'.tape = w.tape) (hout : w'.output = w.output) (hsz : w.heap.size ≤ w'.heap.size)
    (hk : ∀ b, b < w.heap.size → w'.heap[b]? = w.heap[b]?) : St B w0 w' L := by
  obtain ⟨⟨g1, g2, g3, g4, g5, g6⟩, g7, g8⟩ := h
  exact ⟨⟨hos.trans g1, htape.trans g2, hout.trans g3, Nat.le_trans g4 hsz, Nat.le_trans g5 hsz, fun k hk' => (hk k (by omega)).trans (g6 k hk')⟩,
    fun y hy => It.ok_keep (g7 y hy) hsz (fun b hb => hk b (It.ok_lt (g7 y hy) hb).2), g8⟩
theorem St.grown (h : St B w0 w L) (hb : Below w.heap.size w w') : St B w0 w' L := h.same hb.os hb.tape hb.output hb.size hb.block
theorem St.sub (h : St B w0 w L) {L' : List It} (hs : L'.Sublist L) : St B w0 w L' := ⟨h.1, fun it hi => h.2.1 it (hs.subset hi), h.2.2.sublist hs⟩
theorem St.erase (h : St B w0 w L) (i : Nat) : St B w0 w (L.eraseIdx i) := h.sub (List.eraseIdx_sublist L i)
theorem St.nil (h : St B w0 w L) (el : TypeId) (sz : Nat) : St B w0 w (L ++ [.row none 0 el sz 0 []]) :=
  h.add rfl rfl rfl (Nat.le_refl _) (fun _ _ => rfl) ⟨by simp, .inl ⟨rfl, rfl, rfl⟩⟩ (fun b hb => by obtain ⟨a, h, _⟩ := hb; cases h)
theorem St.addRow (h : St B w0 w L) (hb : Below w.heap.size w w') {A : Option Addr} {c : Nat} {el : TypeId} {sz m : Nat} {cs : List Value} (ho : Owns w' w.heap.size A c el sz m cs) : St B w0 w' (L ++ [.row A c el sz m cs]) := by
  refine h.add hb.os hb.tape hb.output hb.size hb.block (Owns.mono ho h.size) ?_
  rintro b ⟨a, ha, rfl⟩
  exact (ho.lt a ha).1
theorem St.out {A : Option Addr} {c : Nat} {el : TypeId} {sz m : Nat} {cs : List Value} {i : Nat} (h : St w0.heap.size w0 w L) (hi : L[i]? = some (.row A c el sz m cs)) :
    Owns w w0.heap.size A c el sz m cs ∧ Below w0.heap.size w0 w := ⟨h.at hi, h.below⟩
theorem St.cap {A : Option Addr} {c : Nat} {el : TypeId} {sz m : Nat} {cs : List Value} {i : Nat} (h : St B w0 w L) (hi : L[i]? = some (.row A c el sz m cs)) : m ≤ c ∧ c ≤ 9223372036854775807 ∧ cs.length = m * sz :=
  Owns.cap (h.at hi)
/-! ### reading -/
theorem Owns.rd {A : Option Addr} {c : Nat} {el : TypeId} {sz m : Nat} {cs : List Value} (ho : Owns w B A c el sz m cs) : Rd w All A m sz cs := by
  refine ⟨ho.1, fun hm => ?_⟩
  rcases ho.2 with ⟨h1, h2, h3⟩ | ⟨g, cap, cur, hv, hg, hh, r⟩
  · omega
  · exact ⟨_, hv, trivial, ho.cells hv⟩
theorem St.rd {A : Option Addr} {c : Nat} {el : TypeId} {sz m : Nat} {cs : List Value} {i : Nat} (h : St B w0 w L) (hi : L[i]? = some (.row A c el sz m cs)) : Rd w All A m sz cs := Owns.rd (h.at hi)
theorem Rd.old {ok : Nat → Prop} {A : Option Addr} {n sz : Nat} {cs : List Value} (hr : Rd w0 ok A n sz cs) (hsz : 0 < sz) (h : St w0.heap.size w0 w L) : Rd w ok A n sz cs := by
  refine ⟨hr.1, fun hn => ?_⟩
  obtain ⟨ad, hA, ho, hc⟩ := hr.2 hn
  refine ⟨ad, hA, ho, fun j u hu => ?_⟩
  have hb : (ad.add j).block = ad.block := by unfold Addr.add; split <;> rfl
  have hlt : (ad.add j).block < w0.heap.size := World.block_lt_of_cell? w0 _ (hc j u hu)
  rw [h.below.cell hlt]
  exact hc j u hu
theorem RdE.old {α : Type} {enc : α → Value} {ok : Nat → Prop} {A : Option Addr} {l : List α} (hr : RdE w0 ok enc A l) (h : St w0.heap.size w0 w L) : RdE w ok enc A l := Rd.old hr (by omega) h
theorem St.rdE {α : Type} {enc : α → Value} {A : Option Addr} {c : Nat} {el : TypeId} {m : Nat} {l : List α} {i : Nat} (h : St B w0 w L) (hi : L[i]? = some (.row A c el 1 m (l.map enc))) : RdE w All enc A l := by
  have := h.rd hi
  have hl : m = l.length := by have := this.1; simpa using this.symm
  subst hl
  exact this
theorem Rd.take {ok : Nat → Prop} {A : Option Addr} {n k sz : Nat} {cs : List Value} (hr : Rd w ok A n sz cs) (hk : k ≤ n) : Rd w ok A k sz (cs.take (k * sz)) := by
  refine ⟨by rw [List.length_take, hr.1]; exact Nat.min_eq_left (Nat.mul_le_mul_right _ hk), fun h0 => ?_⟩
  obtain ⟨ad, hA, ho, hc⟩ := hr.2 (by omega)
  refine ⟨ad, hA, ho, fun j u hu => hc j u ?_⟩
  rw [List.getElem?_take] at hu
  split at hu
  · exact hu
  · cases hu
theorem RdE.take {α : Type} {enc : α → Value} {ok : Nat → Prop} {A : Option Addr} {l : List α} (hr : RdE w ok enc A l) (k : Nat) : RdE w ok enc A (l.take k) := by
  by_cases hk : k ≤ l.length
  · have := Rd.take hr hk
    unfold RdE
    rw [List.length_take, Nat.min_eq_left hk, List.map_take]
    simpa using this
  · rw [List.take_of_length_le (by omega)]; exact hr
theorem RdE.drop {α : Type} {enc : α → Value} {ok : Nat → Prop} {A : Option Addr} {l : List α} (hr : RdE w ok enc A l) {k cap : Nat} (hk : k ≤ l.length) (hc : l.length ≤ cap) :
    RdE w ok enc (if cap = k then A else A.map (·.add (k * 1))) (l.drop k) := by
  refine ⟨by simp, fun hn => ?_⟩
  rw [List.length_drop] at hn
  obtain ⟨ad, rfl, ho, hcell⟩ := hr.2 (by omega)
  rw [if_neg (by omega)]
  refine ⟨ad.add (k * 1), rfl, by unfold Addr.add; split <;> exact ho, fun j u hu => ?_⟩
  have hadd : (ad.add (k * 1)).add j = ad.add (k + j) := by
    unfold Addr.add
    by_cases h1 : k = 0 <;> by_cases h2 : j = 0 <;> simp [h1, h2, Nat.add_assoc]
  rw [hadd]
  exact hcell _ u (by rw [List.getElem?_map] at hu ⊢; rw [List.getElem?_drop] at hu; exact hu)
theorem RdE.nil {α : Type} {enc : α → Value} {ok : Nat → Prop} (w : World) (A : Option Addr) : RdE w ok enc A ([] : List α) := ⟨by simp, fun h => by simp at h⟩
theorem RdE.eqv {α : Type} {enc : α → Value} {ok : Nat → Prop} {A : Option Addr} {l : List α} (hr : RdE w ok enc A l) (he : Eqv w w') : RdE w' ok enc A l := by obtain ⟨n, rfl⟩ := he; exact hr
theorem RdE.below {α : Type} {enc : α → Value} {ok : Nat → Prop} {A : Option Addr} {l : List α} (hr : RdE w ok enc A l) (he : Below w.heap.size w w') : RdE w' ok enc A l := by
  refine ⟨hr.1, fun hn => ?_⟩
  obtain ⟨ad, hA, ho, hc⟩ := hr.2 hn
  refine ⟨ad, hA, ho, fun j u hu => ?_⟩
  rw [he.cell (World.block_lt_of_cell? w _ (hc j u hu))]
  exact hc j u hu
end

/-! ### what an element type is -/
def oneCells (v : Value) : Bool := match v with | .agg _ | .tuple _ => false | _ => true
def allOne : List Value → Bool
  | [] => true
  | v :: r => oneCells v && allOne r
theorem allOne_mem : ∀ {l : List Value}, allOne l = true → ∀ v ∈ l, oneCells v = true
  | v :: r, h, u, hu => by
    simp only [allOne, Bool.and_eq_true] at h
    rcases List.mem_cons.1 hu with rfl | hu
    · exact h.1
    · exact allOne_mem h.2 u hu
theorem allOne_map {α : Type} {enc : α → Value} (h : ∀ x, oneCells (enc x) = true) : ∀ (l : List α), allOne (l.map enc) = true
  | [] => rfl
  | x :: r => by simp [allOne, h x, allOne_map h r]
theorem oneCell'_of {v : Value} (h : oneCells v = true) : v.oneCell' = true := by cases v <;> first | rfl | cases h
def uB (b : UInt8) : Value := .int .u8 b.toNat
structure Elem (P : Program) (el : TypeId) (z : Value) (size bytes : Nat) : Prop where
  ex : ∃ i : TypeInfo, P.info? el = some i ∧ i.zero = some z ∧ i.size = size ∧ i.bytes = bytes
  zs : z.cells.size = size
  pos : 0 < size
theorem Elem.of {P : Program} {el : TypeId} {z : Value} {size bytes : Nat} (h : (P.info? el).map (fun i => (i.zero, i.size, i.bytes)) = some (some z, size, bytes)) (hz : z.cells.size = size) (hp : 0 < size) : Elem P el z size bytes := by
  cases hi : P.info? el with
  | none => rw [hi] at h; cases h
  | some i =>
    rw [hi] at h
    simp only [Option.map_some, Option.some.injEq, Prod.mk.injEq] at h
    exact ⟨⟨i, hi, h.1, h.2.1, h.2.2⟩, hz, hp⟩
theorem Elem.cellsOf {P : Program} {el : TypeId} {z : Value} {size bytes : Nat} (h : Elem P el z size bytes) : P.cellsOf el = size ∧ (P.info? el).isSome = true := by
  obtain ⟨i, hi, _, hs, _⟩ := h.ex
  simp [Program.cellsOf, hi, hs]
section
variable {P : Program} {N : Nt} {e : Env} {Q : Exit → Act → World → Prop} {w w0 : World} {T : TyTab} {B : Nat} {L : List It}
theorem growBy_le (need : Nat) : ∀ (r c : Nat), 256 ≤ c → c ≤ 2 * need → Builtin.growBy need r c ≤ 2 * need
  | 0, c, _, h => h
  | r + 1, c, h1, h2 => by
    unfold Builtin.growBy
    split
    · exact h2
    · exact growBy_le need r _ (by omega) (by omega)
theorem nextslicecap_le {need old : Nat} (h : old < need) : Builtin.nextslicecap need old ≤ 2 * need := by
  unfold Builtin.nextslicecap
  split
  · omega
  · split
    · omega
    · exact growBy_le need 4 old (by omega) (by omega)
theorem grown_owns {el : TypeId} {z : Value} {sz bytes : Nat} (hel : Elem P el z sz bytes) (w : World) {n need : Nat} {olds news : List Value} (h1 : (olds ++ news).length = need * sz) (hmax : need ≤ 9223372036854775807) (hn : n ≤ w.heap.size) (old : Nat) :
    Owns (w.drew.alloc (.cells (olds.toArray ++ news.toArray ++ Builtin.zeroCells z.cells (grownCap w need old el - need)) el)) n (some ⟨w.heap.size, 0, none⟩) (grownCap w need old el) el sz need (olds ++ news) := by
  refine ⟨h1, .inr ⟨w.heap.size, grownCap w need old el, olds.toArray ++ news.toArray ++ Builtin.zeroCells z.cells (grownCap w need old el - need), rfl, hn, ?_, grownCap_ge _ _ _ _, Nat.le_refl _, grownCap_le_maxLen _ _ _ _ (by simp only [maxLen]; omega), ?_, ?_⟩⟩
  · show ((w.drew.alloc _).heap)[w.drew.heap.size]? = _
    exact heap_alloc_new w.drew _
  · have hge := grownCap_ge w need old el
    have : (olds ++ news).length + (grownCap w need old el - need) * sz = grownCap w need old el * sz := by
      rw [h1, ← Nat.add_mul]; congr 1; omega
    simp only [Array.size_append, List.size_toArray, size_zeroCells, hel.zs]
    simp only [List.length_append] at this
    omega
  · simp only [Array.toList_append, List.append_assoc]
    rw [← List.append_assoc, ← h1, List.take_left]
theorem run_append {base : Nat} {t ty el : TypeId} {z : Value} {size bytes : Nat} (ht : P.underlying t = some (.slice el)) (hel : Elem P el z size bytes) (w : World)
    {A : Option Addr} {c n : Nat} {xs : List Value} (hown : Owns w base A c el size n xs)
    {ok : Nat → Prop} {A2 : Option Addr} {m : Nat} (c2 : Nat) {news : List Value} (hr : Rd w ok A2 m size news) (h1 : ∀ u ∈ news, u.oneCell' = true) (hbytes : (n + m) * bytes ≤ 140737488355328) (hmax : n + m ≤ 9223372036854775807) (hbase : base ≤ w.heap.size) :
    ∃ A' c' w', (Builtin.append_ #[t, t] ty #[.slice A n c, .slice A2 m c2]).run P w = .ok (.slice A' (n + m) c') w' ∧ Owns w' base A' c' el size (n + m) (xs ++ news) ∧
      w.grownBy w' (A.map (·.block)) ∧ (A'.map (·.block) = A.map (·.block) ∨ A'.map (·.block) = some w.heap.size) := by
  obtain ⟨i, hi, hz, hsz, hb⟩ := hel.ex
  have hlen : (xs ++ news).length = (n + m) * size := by rw [List.length_append, hown.1, hr.1, Nat.add_mul]
  rcases Nat.eq_zero_or_pos m with h0 | h0
  · subst h0
    have hn : news = [] := List.eq_nil_of_length_eq_zero (by simpa using hr.1)
    subst hn
    refine ⟨A, c, w, ?_, by simpa using hown, World.grownBy.refl w _, .inl rfl⟩
    have hf : (Builtin.firstCells i.size 0 (.slice A2 0 c2)).run P w = .ok #[] w := by
      cases A2 with
      | none => simp [Builtin.firstCells]
      | some a => simp [Builtin.firstCells, loadCells, loadCellsFrom]
    have hnc := hown.cap.1
    cases A with
    | none => simp [Builtin.append_, run_underlying ht, sizeOf, typeInfo, hi, Builtin.lenOf, hf, hnc]
    | some a => simp [Builtin.append_, run_underlying ht, sizeOf, typeInfo, hi, Builtin.lenOf, hnc, hf, storeCells]
  · obtain ⟨ad, rfl, _, hc⟩ := hr.2 h0
    rcases hown.2 with ⟨rfl, rfl, rfl⟩ | ⟨g, cap, cur, rfl, hg, hh, hnc, hcc, hmx, hcs, htk⟩
    · have hx : xs = [] := List.eq_nil_of_length_eq_zero (by simpa using hown.1)
      subst hx
      have hm48 : m * i.bytes ≤ 281474976710656 := by rw [hb]; simp only [Nat.zero_add] at hbytes; omega
      have hrun := run_append_nil (P := P) w t ty el i z ht hi hz ad m c2 news (by rw [hr.1, hsz]) hc h0 (by omega) hm48
      refine ⟨some ⟨w.heap.size, 0, none⟩, grownCap w m 0 el, _, by simpa using hrun, ?_, ?_, .inr rfl⟩
      · have := grown_owns (P := P) hel w (n := base) (need := m) (olds := []) (news := news) (by simpa using hlen) (by omega) hbase 0
        simpa using this
      · exact ⟨rfl, rfl, rfl, by simp, fun k hk _ => Below.heap_alloc w.drew _ k hk⟩
    · by_cases hroom : n + m ≤ c
      · have hfit : n * i.size + news.length ≤ cur.size := by
          rw [hr.1, hcs, hsz, ← Nat.add_mul]; exact Nat.mul_le_mul_right _ (by omega)
        have hrun := run_append_room (P := P) (ty := ty) w t el i ht hi g n c cur hh ad m c2 news (by rw [hr.1, hsz]) hc h1 hroom hfit
        refine ⟨some ⟨g, 0, none⟩, c, _, hrun, ⟨hlen, .inr ⟨g, cap, _, rfl, hg, setRow_heap w g cur _ el _ hh, hroom, hcc, hmx, ?_, ?_⟩⟩, ⟨rfl, rfl, rfl, by simp, fun k _ hk => setRow_other w g k _ (fun e => hk (by simp [e]))⟩, .inl rfl⟩
        · simp only [List.size_toArray, List.length_append, List.length_take, List.length_drop, Array.length_toList]
          omega
        · rw [hsz, htk, ← hlen]
          simp only [List.append_assoc]
          rw [← List.append_assoc]
          exact List.take_left
      · have hnx := nextslicecap_le (need := n + m) (old := c) (by omega)
        have hfit : Builtin.nextslicecap (n + m) c * i.bytes ≤ 281474976710656 := by
          rw [hb]
          have := Nat.mul_le_mul_right bytes hnx
          have e : 2 * (n + m) * bytes = 2 * ((n + m) * bytes) := Nat.mul_assoc _ _ _
          omega
        have hrun := run_append_grow (P := P) w t ty el i z ht hi hz ⟨g, 0, none⟩ n c xs (by rw [hown.1, hsz]) (hown.cells rfl) ad m c2 news (by rw [hr.1, hsz]) hc (by omega) (by omega) hfit
        exact ⟨some ⟨w.heap.size, 0, none⟩, _, _, hrun, grown_owns hel w hlen hmax hbase c, ⟨rfl, rfl, rfl, by simp, fun k hk _ => Below.heap_alloc w.drew _ k hk⟩, .inr rfl⟩
theorem St.appended (hS : St B w0 w L) {i : Nat} {A : Option Addr} {c : Nat} {el : TypeId} {sz n m : Nat} {xs news : List Value} (hi : L[i]? = some (.row A c el sz n xs)) {A' : Option Addr} {c' : Nat} {w' : World}
    (ho : Owns w' B A' c' el sz (n + m) (xs ++ news)) (hg : w.grownBy w' (A.map (·.block)))
    (hl : A'.map (·.block) = A.map (·.block) ∨ A'.map (·.block) = some w.heap.size) :
    St B w0 w' (L.set i (.row A' c' el sz (n + m) (xs ++ news))) := by
  refine hS.update hi hg.os hg.tape hg.output hg.size (fun b hb hf => hg.block b hb ?_) ho ?_
  · intro he
    cases A with
    | none => cases he
    | some a => exact hf ⟨a, rfl, by injection he with he; exact he.symm⟩
  · rintro b ⟨a, rfl, rfl⟩
    rcases hl with h | h
    · cases A with
      | none => cases h
      | some a2 => exact .inl ⟨a2, rfl, by injection h with h; exact h.symm⟩
    · have h2 : a.block = w.heap.size := by injection h
      exact .inr (by rw [h2]; exact Nat.le_refl _)
theorem gl_append {ops : Array Oper} {o : Oper} {rest : List Oper} {d : Nat} {t el : TypeId} {s x : Operand} {z : Value} {sz bytes : Nat} {A A2 : Option Addr} {c n m c2 : Nat} {xs news : List Value} {ok : Nat → Prop} (i : Nat)
    (hT : TabOk P T) (hS : St B w0 w L) (hel : Elem P el z sz bytes) (hr : Rd w ok A2 m sz news) (h1 : allOne news = true)
    (hd : o.dst = some d) (hg : o.guard = none) (hN : Nat.ble (d + 1) N = true) (ho : o.op = .call { callee := .builtin .append, args := #[s, x], argTypes := #[t, t] })
    (ht : tlook T t = some (.slice el)) (hs : evO e s = some (.slice A n c)) (hx : evO e x = some (.slice A2 m c2)) (hi : L[i]? = some (.row A c el sz n xs))
    (hb : (n + m) * bytes ≤ 140737488355328) (hmax : n + m ≤ 9223372036854775807)
    (h : ∀ A' c' w', St B w0 w' (L.set i (.row A' c' el sz (n + m) (xs ++ news))) → GL P N ops ((d, .slice A' (n + m) c') :: e) rest Q w') : GL P N ops e (o :: rest) Q w := by
  have hown : Owns w B A c el sz n xs := hS.at hi
  obtain ⟨A', c', w', hrun, h2, h3, h4⟩ := run_append (P := P) (ty := o.type) (hT.at ht) hel w hown c2 hr (fun u hu => oneCell'_of (allOne_mem h1 u hu)) hb hmax hS.size
  refine gl_step (v := .slice A' (n + m) c') (w' := w') hd (Nat.le_of_ble_eq_true hN) hg (fun a ha => ?_) (h A' c' w' (hS.appended hi h2 h3 h4))
  simp only [execOp, ho, resolve, invoke, builtin, Sem.run_bind, Sem.run_pure, Result.andThen_ok, List.map_toArray, List.map_cons, List.map_nil, ha.eval hs, ha.eval hx, hrun]
theorem gl_append0 {ops : Array Oper} {o : Oper} {rest : List Oper} {d : Nat} {t el : TypeId} {s x : Operand} {z : Value} {sz bytes : Nat} {A2 : Option Addr} {m c2 : Nat} {news : List Value} {ok : Nat → Prop}
    (hT : TabOk P T) (hS : St B w0 w L) (hel : Elem P el z sz bytes) (hr : Rd w ok A2 m sz news) (h1 : allOne news = true)
    (hd : o.dst = some d) (hg : o.guard = none) (hN : Nat.ble (d + 1) N = true) (ho : o.op = .call { callee := .builtin .append, args := #[s, x], argTypes := #[t, t] })
    (ht : tlook T t = some (.slice el)) (hs : evO e s = some (.slice none 0 0)) (hx : evO e x = some (.slice A2 m c2))
    (hb : m * bytes ≤ 140737488355328) (hmax : m ≤ 9223372036854775807)
    (h : ∀ A' c' w', St B w0 w' (L ++ [.row A' c' el sz m news]) → GL P N ops ((d, .slice A' m c') :: e) rest Q w') : GL P N ops e (o :: rest) Q w := by
  have hS := hS.nil el sz
  have hi : (L ++ [It.row none 0 el sz 0 []])[L.length]? = some (.row none 0 el sz 0 []) := by simp
  refine gl_append L.length hT hS hel hr h1 hd hg hN ho ht hs hx hi (by rw [Nat.zero_add]; exact hb) (by omega) fun A' c' w' hS => ?_
  have := h A' c' w'
  simp only [Nat.zero_add, List.nil_append] at hS ⊢
  refine this ?_
  have e2 : (L ++ [It.row none 0 el sz 0 []]).set L.length (.row A' c' el sz m news) = L ++ [.row A' c' el sz m news] := by
    rw [List.set_append_right _ _ (Nat.le_refl _)]; simp
  rw [e2] at hS
  exact hS
end
end Go.Proofs.YtnomlloaahoceaaDoor


/- Our own words: cuts of slices and strings, literals, variables in memory, stores, conversions. Nothing here speaks of a statement; no condition. -/
namespace Go.Proofs.YtnomlloaahoceaaDoor
open Go.RowKit
set_option linter.unusedVariables false
set_option linter.unusedSimpArgs false
section
variable {P : Program} {N : Nt} {e : Env} {Q : Exit → Act → World → Prop} {w w0 : World} {T : TyTab} {B : Nat} {L : List It}

/-! ### cuts -/
theorem elem_of {t el : TypeId} (h : P.underlying t = some (.slice el)) : P.underlying t = some (.slice (P.elem t)) ∧ P.elem t = el := by
  have : P.elem t = el := by simp [Program.elem, h]
  rw [this]; exact ⟨h, rfl⟩
theorem Elem.run_size {el : TypeId} {z : Value} {sz bytes : Nat} (h : Elem P el z sz bytes) (w : World) : (sizeOf el).run P w = .ok sz w := by
  obtain ⟨i, hi, _, hs, _⟩ := h.ex
  simp [sizeOf, typeInfo, hi, hs]
theorem map_add_zero (A : Option Addr) (sz : Nat) : A.map (·.add (0 * sz)) = A := by cases A <;> simp [Addr.add]
theorem op_slice_h {o : Oper} {t el : TypeId} {x y : Operand} {z : Value} {sz bytes : Nat} {A : Option Addr} {n c : Nat} {k : IntKind} {h : Int} (hT : TabOk P T) (hel : Elem P el z sz bytes)
    (ho : o.op = .slice t x none (some y) none) (ht : tlook T t = some (.slice el)) (hx : evO e x = some (.slice A n c)) (hy : evO e y = some (.int k h)) (h0 : 0 ≤ h) (h2 : h ≤ c) : OpR P N e w o (.slice A h.toNat c) := by
  intro q a ha
  have hu := elem_of (hT.at ht)
  simp only [execOp, ho, ha.eval hx, Option.map_some, Option.map_none, ha.eval hy, Sem.run_bind, run_sliceAt_slice _ t _ _ _ _ hu.1, run_slice_h _ t _ _ _ hu.1 k h h0 h2, hu.2, hel.run_size, Result.andThen_ok, sliced]
  simp only [map_add_zero, ite_self, Nat.sub_zero]
  rfl
theorem op_slice_hm {o : Oper} {t el : TypeId} {x y y2 : Operand} {z : Value} {sz bytes : Nat} {A : Option Addr} {n c : Nat} {k k2 : IntKind} {h m : Int} (hT : TabOk P T) (hel : Elem P el z sz bytes)
    (ho : o.op = .slice t x none (some y) (some y2)) (ht : tlook T t = some (.slice el)) (hx : evO e x = some (.slice A n c)) (hy : evO e y = some (.int k h)) (hy2 : evO e y2 = some (.int k2 m)) (h0 : 0 ≤ h) (h2 : h ≤ m) (h3 : m ≤ c) : OpR P N e w o (.slice A h.toNat m.toNat) := by
  intro q a ha
  have hu := elem_of (hT.at ht)
  simp only [execOp, ho, ha.eval hx, Option.map_some, Option.map_none, ha.eval hy, ha.eval hy2, Sem.run_bind, run_sliceAt_slice _ t _ _ _ _ hu.1, run_slice_hm _ t _ _ _ hu.1 k k2 h m h0 h2 h3, hu.2, hel.run_size, Result.andThen_ok, sliced]
  simp only [map_add_zero, ite_self, Nat.sub_zero]
  rfl
theorem op_slice_lh {o : Oper} {t el : TypeId} {x y y2 : Operand} {z : Value} {sz bytes : Nat} {A : Option Addr} {n c : Nat} {k k2 : IntKind} {l h : Int} (hT : TabOk P T) (hel : Elem P el z sz bytes)
    (ho : o.op = .slice t x (some y) (some y2) none) (ht : tlook T t = some (.slice el)) (hx : evO e x = some (.slice A n c)) (hy : evO e y = some (.int k l)) (hy2 : evO e y2 = some (.int k2 h)) (h0 : 0 ≤ l) (h1 : l ≤ h) (h2 : h ≤ c) :
    OpR P N e w o (.slice (if c = l.toNat then A else A.map (·.add (l.toNat * sz))) (h.toNat - l.toNat) (c - l.toNat)) := by
  intro q a ha
  have hu := elem_of (hT.at ht)
  simp only [execOp, ho, ha.eval hx, Option.map_some, Option.map_none, ha.eval hy, ha.eval hy2, Sem.run_bind, run_sliceAt_slice _ t _ _ _ _ hu.1, run_slice_lh _ t _ _ _ hu.1 k k2 l h h0 h1 h2, hu.2, hel.run_size, Result.andThen_ok, sliced]
  rfl
/-! ### literals -/
def evParts (e : Env) : Nat → List (Nat × Operand) → Option (List Value)
  | _, [] => some []
  | k, (i, x) :: r => bif Nat.beq i k then (match evO e x, evParts e (k + 1) r with
    | some v, some l => some (v :: l)
    | _, _ => none) else none
theorem cells_of_one {v : Value} (h : oneCells v = true) : v.cells = #[v] := by cases v <;> first | rfl | cases h
theorem fill_ones {a : Act} (ha : Fr N a e) : ∀ (ps : List (Nat × Operand)) (k : Nat) (vs : List Value) (pre post : List Value), evParts e k ps = some vs → pre.length = k → post.length = vs.length → (∀ v ∈ vs, oneCells v = true) →
    Instr.fill (fun i => some (i * 1, 1)) ⟨pre ++ post⟩ (ps.map fun (i, x) => (i, a.eval x)) = some ⟨pre ++ vs⟩
  | [], k, vs, pre, post, h, _, hl, _ => by
    simp [evParts] at h; subst h
    have : post = [] := List.eq_nil_of_length_eq_zero (by simpa using hl)
    simp [Instr.fill, this]
  | (i, x) :: r, k, vs, pre, post, h, hk, hl, h1 => by
    unfold evParts at h
    cases hb : Nat.beq i k with
    | false => rw [hb] at h; simp at h
    | true =>
      have hik : i = k := Nat.eq_of_beq_eq_true hb
      rw [hb] at h
      simp only [cond_true] at h
      split at h
      · rename_i v l hx hr
        simp only [Option.some.injEq] at h
        subst h
        obtain ⟨p0, post, rfl⟩ : ∃ p0 q, post = p0 :: q := by cases post with | nil => simp at hl | cons p q => exact ⟨p, q, rfl⟩
        have hv := h1 v (by simp)
        have ih := fill_ones ha r (k + 1) l (pre ++ [v]) post hr (by simp [hk]) (by simpa using hl) (fun u hu => h1 u (by simp [hu]))
        simp only [List.map_cons, Instr.fill, ha.eval hx, cells_of_one hv]
        have hsz : ¬ ((#[v] : Array Value).size ≠ 1 || decide (i * 1 + (#[v] : Array Value).size > ({ toList := pre ++ p0 :: post } : Array Value).size)) = true := by
          simp [hik, hk]
        rw [if_neg hsz]
        have hset : (#[v] : Array Value).zipIdx.foldl (fun cs (c, j) => cs.setIfInBounds (i * 1 + j) c) ({ toList := pre ++ p0 :: post } : Array Value) = { toList := (pre ++ [v]) ++ post } := by
          have : (#[v] : Array Value).zipIdx = #[(v, 0)] := rfl
          rw [this]
          simp only [List.size_toArray, List.length_cons, List.length_nil, Nat.zero_add, List.foldl_toArray', List.foldl_cons, List.foldl_nil, Nat.add_zero, Nat.mul_one]
          apply Array.toList_inj.1
          simp [Array.toList_setIfInBounds, hik, hk, List.set_append]
        rw [hset]
        rw [ih]
        simp
      · cases h
theorem run_lit {o : Oper} {t el : TypeId} {k : Nat} {ps : List (Nat × Operand)} {vs : List Value} {z : Value} {bytes : Nat}
    (hT : TabOk P T) (hel : Elem P el z 1 bytes) (ho : o.op = .buildSlice t k ⟨ps⟩)
    (ht : tlook T t = some (.slice el)) (hv : evParts e 0 ps = some vs) (hk : vs.length = k) (hk2 : Nat.ble k 16777216 = true) (h1' : allOne vs = true) :
    ∀ a, Fr N a e → (execOp a.eval o).run P w = .ok (.value (.slice (some ⟨w.heap.size, 0, none⟩) k k)) (w.alloc (.cells ⟨vs⟩ el)) := by
  have hk3 := Nat.le_of_ble_eq_true hk2
  have h1 := allOne_mem h1'
  have hzc : ∃ z0, z.cells = #[z0] := by
    have := hel.zs
    cases hz : z.cells with
    | mk l => rw [hz] at this; simp at this; match l, this with | [x], _ => exact ⟨x, rfl⟩
  obtain ⟨z0, hz0⟩ := hzc
  intro a ha
  obtain ⟨i, hi, hz, hs', hb⟩ := hel.ex
  have hs : (1 : Nat) = 1 := rfl
  have hf := fill_ones ha ps 0 vs [] (List.replicate k z0) hv rfl (by simp [hk]) h1
  simp only [List.nil_append] at hf
  have hpm : (Array.map (fun (x : Nat × Operand) => (x.1, a.eval x.2)) ⟨ps⟩).toList = ps.map fun (i, x) => (i, a.eval x) := by simp
  rcases Nat.eq_zero_or_pos k with h0 | h0
  · subst h0
    have hvs : vs = [] := List.eq_nil_of_length_eq_zero hk
    subst hvs
    have hps : ps = [] := by
      cases ps with
      | nil => rfl
      | cons p r =>
        obtain ⟨i1, x1⟩ := p
        unfold evParts at hv
        cases hb1 : Nat.beq i1 0 with
        | false => rw [hb1] at hv; simp at hv
        | true => rw [hb1] at hv; simp only [cond_true] at hv; split at hv <;> simp at hv
    subst hps
    simp only [execOp, ho, Instr.buildSlice, Sem.run_bind, run_underlying (hT.at ht), Result.andThen_ok, hel.run_size w]
    simp [Instr.fill, newRow, newObj, Sem.run, Array.range_zero']
  · have hzeros : (Array.range (k * 1)).map (fun x => (#[z0] : Array Value)[x % (#[z0] : Array Value).size]!) = ⟨List.replicate k z0⟩ := by
      rw [Nat.mul_one]
      apply Array.toList_inj.1
      apply List.ext_getElem
      · simp
      · intro j h1 h2; simp [Nat.mod_one]
    have hzv : (zeroValue el).run P w = .ok z w := by simp [zeroValue, typeInfo, hi, hz]
    have hle : ¬ k * 1 > 2 ^ 24 := by omega
    have hne : ¬ k * 1 = 0 := by omega
    simp only [execOp, ho, Instr.buildSlice, Sem.run_bind, run_underlying (hT.at ht), Result.andThen_ok, hel.run_size w, hpm, hle, hne, if_false, hzv, hz0, Sem.run_pure, hzeros, hf]
    simp [newRow, newObj, Sem.run]
theorem gl_lit {ops : Array Oper} {o : Oper} {rest : List Oper} {d : Nat} {t el : TypeId} {k : Nat} {ps : List (Nat × Operand)} {vs : List Value} {z : Value} {bytes : Nat}
    (hT : TabOk P T) (hS : St B w0 w L) (hel : Elem P el z 1 bytes) (hd : o.dst = some d) (hg : o.guard = none) (hN : Nat.ble (d + 1) N = true) (ho : o.op = .buildSlice t k ⟨ps⟩)
    (ht : tlook T t = some (.slice el)) (hv : evParts e 0 ps = some vs) (hk : vs.length = k) (hk2 : Nat.ble k 16777216 = true) (h1' : allOne vs = true)
    (h : ∀ g w', St B w0 w' (L ++ [.row (some ⟨g, 0, none⟩) k el 1 k vs]) → GL P N ops ((d, .slice (some ⟨g, 0, none⟩) k k) :: e) rest Q w') : GL P N ops e (o :: rest) Q w := by
  have hk3 := Nat.le_of_ble_eq_true hk2
  have hrun := run_lit (N := N) (w := w) hT hel ho ht hv hk hk2 h1'
  refine gl_step hd (Nat.le_of_ble_eq_true hN) hg hrun (h _ _ (hS.add rfl rfl rfl (by simp) (fun b hb => Below.heap_alloc _ _ b hb) ?_ ?_))
  · refine ⟨by simp [hk], .inr ⟨w.heap.size, k, ⟨vs⟩, rfl, hS.size, heap_alloc_new w _, Nat.le_refl _, Nat.le_refl _, by simp only [maxLen]; omega, by simp [hk], ?_⟩⟩
    rw [Nat.mul_one]; exact List.take_of_length_le (by simp [hk])
  · rintro b ⟨a, h, rfl⟩; injection h with h; rw [← h]; exact Nat.le_refl _

/-! ### variables in memory -/
theorem blk_cell {g : Nat} {t : TypeId} {cs : List Value} (h : w.heap[g]? = some (.cells ⟨cs⟩ t (0, 0))) (i : Nat) : w.cell? ⟨g, i, none⟩ = cs[i]? := by
  rw [cell_of_row w g i ⟨cs⟩ t (0, 0) h]; simp
theorem St.cell (hS : St B w0 w L) {i g : Nat} {t : TypeId} {cs : List Value} (hi : L[i]? = some (.blk g t cs)) (j : Nat) : w.cell? ⟨g, j, none⟩ = cs[j]? := blk_cell (hS.at hi).2 j
theorem gl_box {ops : Array Oper} {o : Oper} {rest : List Oper} {d : Nat} {el : TypeId} {x : Operand} {v : Value}
    (hS : St B w0 w L) (hd : o.dst = some d) (hg : o.guard = none) (hN : Nat.ble (d + 1) N = true) (ho : o.op = .box el x) (hx : evO e x = some v)
    (h : ∀ g w', St B w0 w' (L ++ [.blk g el v.cells.toList]) → GL P N ops ((d, .pointer (some ⟨g, 0, none⟩)) :: e) rest Q w') : GL P N ops e (o :: rest) Q w := by
  have hrun : ∀ a, Fr N a e → (execOp a.eval o).run P w = .ok (.value (.pointer (some ⟨w.heap.size, 0, none⟩))) (w.alloc (.cells ⟨v.cells.toList⟩ el)) := by
    intro a ha
    simp [execOp, ho, ha.eval hx, Instr.box, newVar, newRow, newObj, Sem.run]
  refine gl_step hd (Nat.le_of_ble_eq_true hN) hg hrun (h _ _ (hS.add rfl rfl rfl (by simp) (fun b hb => Below.heap_alloc _ _ b hb) ?_ ?_))
  · exact ⟨hS.size, heap_alloc_new w _⟩
  · rintro b rfl; exact Nat.le_refl _
theorem gl_alloc {ops : Array Oper} {o : Oper} {rest : List Oper} {d : Nat} {el : TypeId} {z : Value} {sz bytes : Nat} (hel : Elem P el z sz bytes)
    (hS : St B w0 w L) (hd : o.dst = some d) (hg : o.guard = none) (hN : Nat.ble (d + 1) N = true) (ho : o.op = .alloc el)
    (h : ∀ g w', St B w0 w' (L ++ [.blk g el z.cells.toList]) → GL P N ops ((d, .pointer (some ⟨g, 0, none⟩)) :: e) rest Q w') : GL P N ops e (o :: rest) Q w := by
  have hrun : ∀ a, Fr N a e → (execOp a.eval o).run P w = .ok (.value (.pointer (some ⟨w.heap.size, 0, none⟩))) (w.alloc (.cells ⟨z.cells.toList⟩ el)) := by
    intro a ha
    obtain ⟨i, hi, hz, _, _⟩ := hel.ex
    have hzv : (zeroValue el).run P w = .ok z w := by simp [zeroValue, typeInfo, hi, hz]
    simp [execOp, ho, Instr.alloc, newVar, newRow, newObj, Sem.run, hzv]
  refine gl_step hd (Nat.le_of_ble_eq_true hN) hg hrun (h _ _ (hS.add rfl rfl rfl (by simp) (fun b hb => Below.heap_alloc _ _ b hb) ?_ ?_))
  · exact ⟨hS.size, heap_alloc_new w _⟩
  · rintro b rfl; exact Nat.le_refl _
theorem op_loadB {o : Oper} {t bt : TypeId} {x : Operand} {g j : Nat} {v : Value} {d : TypeDesc} {cs : List Value} (i : Nat) (hT : TabOk P T) (hS : St B w0 w L) (ho : o.op = .load t x) (ht : tlook T t = some d) (hd : isAggD d = false)
    (hx : evO e x = some (.pointer (some ⟨g, j, none⟩))) (hi : L[i]? = some (.blk g bt cs)) (hv : cs[j]? = some v) : OpR P N e w o v :=
  op_load hT ho ht hd hx ((hS.cell hi j).trans hv)
theorem run_load_agg {a : Addr} {cs : List Value} (hc : ∀ j u, cs[j]? = some u → w.cell? (a.add j) = some u) : (loadCells a cs.length).run P w = .ok cs.toArray w := run_loadCells_list w a cs hc
theorem run_store1 {g j : Nat} {t : TypeId} {cs : List Value} (hg : w.heap[g]? = some (.cells ⟨cs⟩ t (0, 0))) (hj : j < cs.length) {v : Value} (hv : oneCells v = true) (m : Mode) :
    (store ⟨g, j, none⟩ v m).run P w = .ok () (w.setCell ⟨g, j, none⟩ v) := by
  have hc : w.cell? ⟨g, j, none⟩ = some (cs[j]) := by rw [blk_cell hg]; simp [hj]
  have hf : w.frozen? ⟨g, j, none⟩ = false := by simp [World.frozen?, hg]
  cases v <;> first | (cases hv; done) | simp [store, Sem.run, hc, hf]
theorem setCell_heap {g j : Nat} {t : TypeId} {cs : List Value} (hg : w.heap[g]? = some (.cells ⟨cs⟩ t (0, 0))) (v : Value) : (w.setCell ⟨g, j, none⟩ v).heap[g]? = some (.cells ⟨cs.set j v⟩ t (0, 0)) := by
  simp [World.setCell, Array.getElem?_modify, hg]
theorem St.stored (hS : St B w0 w L) {i g : Nat} {t : TypeId} {cs : List Value} (hi : L[i]? = some (.blk g t cs)) (j : Nat) (v : Value) : St B w0 (w.setCell ⟨g, j, none⟩ v) (L.set i (.blk g t (cs.set j v))) := by
  have hb := hS.at hi
  refine hS.update hi rfl rfl rfl (by simp [World.setCell]) (fun b _ hf => Below.heap_setCell w _ _ b (fun h => hf h)) ⟨hb.1, setCell_heap hb.2 v⟩ (fun b hb => .inl hb)
theorem run_storeVar1 {el : TypeId} {g j : Nat} {t : TypeId} {cs : List Value} (hsz : P.cellsOf el = 1) (hsome : (P.info? el).isSome = true) (hg : w.heap[g]? = some (.cells ⟨cs⟩ t (0, 0))) (hj : j < cs.length) {v : Value} (hv : oneCells v = true) :
    (storeVar el ⟨g, j, none⟩ v).run P w = .ok () (w.setCell ⟨g, j, none⟩ v) := by
  obtain ⟨inf, hinf⟩ := Option.isSome_iff_exists.1 hsome
  have hs : (sizeOf el).run P w = .ok 1 w := by
    have : inf.size = 1 := by rw [← hsz]; simp [Program.cellsOf, hinf]
    simp [sizeOf, typeInfo, hinf, this]
  have h1 := run_store1 (P := P) hg hj hv .plain
  simp only [storeVar, Sem.run_bind, hs, Result.andThen_ok, cells_of_one hv]
  simp only [List.size_toArray, List.length_cons, List.length_nil, Nat.zero_add, ne_eq, not_true_eq_false, if_false, storeCells]
  have ha0 : (⟨g, j, none⟩ : Addr).add 0 = ⟨g, j, none⟩ := by simp [Addr.add]
  simp [ha0, h1]
theorem gl_store {ops : Array Oper} {o : Oper} {rest : List Oper} {el bt : TypeId} {x y : Operand} {g j : Nat} {v : Value} {cs : List Value} (i : Nat) (hS : St B w0 w L) (hsz : P.cellsOf el = 1) (hsome : (P.info? el).isSome = true)
    (hd : o.dst = none) (hg : o.guard = none) (ho : o.op = .store el x y) (hx : evO e x = some (.pointer (some ⟨g, j, none⟩))) (hy : evO e y = some v) (hi : L[i]? = some (.blk g bt cs)) (hj : Nat.ble (j + 1) cs.length = true) (hv : oneCells v = true)
    (h : ∀ w', St B w0 w' (L.set i (.blk g bt (cs.set j v))) → GL P N ops e rest Q w') : GL P N ops e (o :: rest) Q w := by
  refine gl_act (w' := w.setCell ⟨g, j, none⟩ v) hd hg (fun a ha => ?_) (h _ (hS.stored hi j v))
  have h1 := run_storeVar1 (P := P) hsz hsome (hS.at hi).2 (Nat.le_of_ble_eq_true hj) hv
  simp only [execOp, ho, ha.eval hx, ha.eval hy, Instr.storeAt, Instr.sureAddr, Sem.run_bind, Sem.run_pure, Result.andThen_ok, pure_bind, h1]
theorem gl_un {ops : Array Oper} {o : Oper} {rest : List Oper} {j t : Nat} {want b : Bool} (hg : o.guard = some (j, want))
    (hj : ((ops[j]?).bind (·.dst)) = some t) (hl : look e t = some (.bool b)) (hwant : b = want) (h : GL P N ops e ({ o with guard := none } :: rest) Q w) : GL P N ops e (o :: rest) Q w := by
  intro a ha
  have hw : Region.wanted o (yielded ops a.tmps) = true := by
    simp [Region.wanted, hg, yielded_of hj ha hl, hwant]
  have := h a ha
  unfold wpList at this ⊢
  rw [if_pos (by simp [Region.wanted])] at this
  rw [if_pos hw]
  exact this
theorem gc_cut {x y : Code} (I : Act → World → Prop) (h1 : GC P N e x (Exit.then I Q) w) (h2 : ∀ a w', I a w' → y.wp P Q a w') : GC P N e (.seq x y) Q w :=
  fun a ha => wp_seq (wp_mono (h1 a ha) fun ex a' w' hq => by cases ex <;> first | exact h2 _ _ hq | exact hq)
end
end Go.Proofs.YtnomlloaahoceaaDoor

