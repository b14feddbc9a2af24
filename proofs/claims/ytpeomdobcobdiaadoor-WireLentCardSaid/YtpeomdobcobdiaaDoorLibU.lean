/- Our own words: a mark appended to a slice of memory that is full of that mark already. Nothing here speaks of a statement; no condition. -/
import Derived.Test.YtpeomdobcobdiaaDoorLibS
namespace Go.Proofs.YtpeomdobcobdiaaDoor
open Go.RowKit
set_option linter.unusedVariables false
set_option linter.unusedSimpArgs false
section
variable {P : Program} {N : Nat} {e : Env} {Q : Exit → Act → World → Prop} {w w0 w' : World} {T : TyTab} {B : Nat} {L : List It}
theorem rep_take {l : List Value} {k : Nat} {m : Value} (h : l.take k = List.replicate k m) : ∀ j, j < k → l[j]? = some m := fun j hj => by
  have h1 : (l.take k)[j]? = some m := by rw [h, List.getElem?_replicate, if_pos hj]
  rwa [List.getElem?_take_of_lt hj] at h1
theorem take_rep {l : List Value} {k : Nat} {m : Value} (h : ∀ j, j < k → l[j]? = some m) : l.take k = List.replicate k m := by
  apply List.ext_getElem?
  intro j
  rcases Nat.lt_or_ge j k with hj | hj
  · rw [List.getElem?_take_of_lt hj, h j hj, List.getElem?_replicate, if_pos hj]
  · rw [List.getElem?_replicate, if_neg (by omega), List.getElem?_eq_none (by rw [List.length_take]; omega)]
theorem gl_appendM {ops : Array Oper} {o : Oper} {rest : List Oper} {d : Nat} {t el : TypeId} {s x : Operand} {z m : Value} {bytes : Nat} {A A2 : Option Addr} {c n k c2 : Nat} {ok : Nat → Prop} (i : Nat)
    (hT : TabOk P T) (hS : St B w0 w L) (hel : Elem P el z 1 bytes) (hr : Rd w ok A2 1 1 [m]) (h1 : oneCells m = true)
    (hd : o.dst = some d) (hg : o.guard = none) (hN : Nat.ble (d + 1) N = true) (ho : o.op = .call { callee := .builtin .append, args := #[s, x], argTypes := #[t, t] })
    (ht : tlook T t = some (.slice el)) (hs : evO e s = some (.slice A n c)) (hx : evO e x = some (.slice A2 1 c2)) (hi : L[i]? = some (.row A c el 1 k (List.replicate k m))) (hnk : n ≤ k)
    (hb : (n + 1) * bytes ≤ 140737488355328) (hmax : n + 1 ≤ 9223372036854775807)
    (ha : n + 1 ≤ c → ∀ w', St B w0 w' (L.set i (.row A c el 1 (max k (n + 1)) (List.replicate (max k (n + 1)) m))) → GL P N ops ((d, .slice A (n + 1) c) :: e) rest Q w')
    (hn : ∀ A' c' w', St B w0 w' (L ++ [.row A' c' el 1 (n + 1) (List.replicate (n + 1) m)]) → GL P N ops ((d, .slice A' (n + 1) c') :: e) rest Q w') : GL P N ops e (o :: rest) Q w := by
  have hown : Owns w B A c el 1 k (List.replicate k m) := hS.at hi
  obtain ⟨i0, hi0, hz, hsz, hbb⟩ := hel.ex
  obtain ⟨ad, rfl, _, hc⟩ := hr.2 (by omega)
  have hone : ∀ u ∈ [m], u.oneCell' = true := fun u hu => by rw [List.mem_singleton] at hu; rw [hu]; exact oneCell'_of h1
  have fin : ∀ {v : Value} {w2 : World}, (Builtin.append_ #[t, t] o.type #[.slice A n c, .slice (some ad) 1 c2]).run P w = .ok v w2 → GL P N ops ((d, v) :: e) rest Q w2 → GL P N ops e (o :: rest) Q w := fun {v w2} hrun hgl => by
    refine gl_step (v := v) (w' := w2) hd (Nat.le_of_ble_eq_true hN) hg (fun a ha => ?_) hgl
    simp only [execOp, ho, resolve, invoke, builtin, Sem.run_bind, Sem.run_pure, Result.andThen_ok, List.map_toArray, List.map_cons, List.map_nil, ha.eval hs, ha.eval hx, hrun]
  have hB := hS.size
  rcases hown.2 with ⟨rfl, rfl, rfl⟩ | ⟨g, cap, cur, rfl, hgB, hh, hnc, hcc, hmx, hcs, htk⟩
  · obtain rfl : n = 0 := by omega
    have hrun := run_append_nil (P := P) w t o.type el i0 z (hT.at ht) hi0 hz ad 1 c2 [m] (by rw [hsz]; rfl) hc (by omega) (by omega) (by rw [hbb]; omega)
    refine fin hrun ?_
    refine hn (some ⟨w.heap.size, 0, none⟩) (grownCap w 1 0 el) _ ?_
    refine hS.add rfl rfl rfl (by simp) (fun b hb => Below.heap_alloc w.drew _ b hb) ?_ ?_
    · have := grown_owns (P := P) hel w (n := B) (need := 1) (olds := []) (news := [m]) (by simp) (by omega) hB 0
      show Owns _ _ _ _ _ _ _ _
      simpa using this
    · rintro b ⟨a, h, rfl⟩; injection h with h; rw [← h]; exact Nat.le_refl _
  · rw [Nat.mul_one] at htk hcs
    have hall := rep_take htk
    by_cases hroom : n + 1 ≤ c
    · have hrun := run_append_room (P := P) (ty := o.type) w t el i0 (hT.at ht) hi0 g n c cur hh ad 1 c2 [m] (by rw [hsz]; rfl) hc hone hroom (by rw [hsz]; simp; omega)
      refine fin hrun (ha hroom _ ?_)
      rw [hsz]
      refine hS.update hi rfl rfl rfl (by simp) (fun b _ hf => setRow_other w g b _ (fun e => hf ⟨_, rfl, e.symm⟩)) ?_ (fun b hb => .inl hb)
      refine ⟨by simp, .inr ⟨g, cap, _, rfl, hgB, setRow_heap w g cur _ el _ hh, by omega, hcc, hmx, ?_, ?_⟩⟩
      · simp only [List.size_toArray, List.length_append, List.length_take, List.length_drop, Array.length_toList, List.length_singleton]
        omega
      · rw [Nat.mul_one]
        refine take_rep fun j hj => ?_
        show (cur.toList.take (n * 1) ++ [m] ++ cur.toList.drop (n * 1 + 1))[j]? = some m
        rw [Nat.mul_one, splice_at cur.toList [m] n 1 j rfl (by rw [Array.length_toList]; omega)]
        split
        · exact hall j (by omega)
        · split
          · rw [show j - n = 0 by omega]; rfl
          · exact hall j (by omega)
    · have hck : n = c := by omega
      have hnx := nextslicecap_le (need := n + 1) (old := c) (by omega)
      have hfit : Builtin.nextslicecap (n + 1) c * i0.bytes ≤ 281474976710656 := by
        rw [hbb]
        have := Nat.mul_le_mul_right bytes hnx
        have e : 2 * (n + 1) * bytes = 2 * ((n + 1) * bytes) := Nat.mul_assoc _ _ _
        omega
      have hcells : ∀ j v, (List.replicate n m)[j]? = some v → w.cell? ((⟨g, 0, none⟩ : Addr).add j) = some v := fun j v hv => by
        refine hown.cells rfl j v ?_
        rw [List.getElem?_replicate] at hv ⊢
        split at hv
        · rw [if_pos (by omega)]; exact hv
        · cases hv
      have hrun := run_append_grow (P := P) w t o.type el i0 z (hT.at ht) hi0 hz ⟨g, 0, none⟩ n c (List.replicate n m) (by rw [hsz]; simp) hcells ad 1 c2 [m] (by rw [hsz]; rfl) hc (by omega) (by omega) hfit
      refine fin hrun (hn (some ⟨w.heap.size, 0, none⟩) _ _ ?_)
      refine hS.add rfl rfl rfl (by simp) (fun b hb => Below.heap_alloc w.drew _ b hb) ?_ ?_
      · have := grown_owns (P := P) hel w (n := B) (need := n + 1) (olds := List.replicate n m) (news := [m]) (by simp) hmax hB c
        rw [List.replicate_succ']
        exact this
      · rintro b ⟨a, h, rfl⟩; injection h with h; rw [← h]; exact Nat.le_refl _
theorem set_perm_cons {α : Type} : ∀ (l : List α) (j : Nat) (r : α), j < l.length → (l.set j r).Perm (r :: l.eraseIdx j)
  | [], j, r, h => absurd h (Nat.not_lt_zero _)
  | x :: l, 0, r, _ => List.Perm.refl _
  | x :: l, j + 1, r, h => ((set_perm_cons l j r (by simpa using h)).cons x).trans (List.Perm.swap ..)
theorem St.replace {r : It} {j : Nat} (h : St B w0 w (L ++ [r])) (hj : j < L.length) : St B w0 w (L.set j r) := by
  have hp : ∀ {L1 L2 : List It}, St B w0 w L1 → L1.Perm L2 → St B w0 w L2 := fun h hp => ⟨h.1, fun it hi => h.2.1 it (hp.mem_iff.2 hi), hp.pairwise h.2.2 fun {x y} hxy b hb hb2 => hxy b hb2 hb⟩
  have h1 := hp h List.perm_append_comm
  have h2 : St B w0 w (r :: L.eraseIdx j) := h1.sub (List.Sublist.cons_cons _ (List.eraseIdx_sublist ..))
  exact hp h2 (set_perm_cons L j r hj).symm
theorem gl_appendM2 {ops : Array Oper} {o : Oper} {rest : List Oper} {d : Nat} {t el : TypeId} {s x : Operand} {z m : Value} {bytes : Nat} {A A1 A2 Ar : Option Addr} {c c1 c2 cr n k1 k2 : Nat} {ok : Nat → Prop} (i j : Nat)
    (hT : TabOk P T) (hS : St B w0 w L) (hel : Elem P el z 1 bytes) (hr : Rd w ok Ar 1 1 [m]) (h1 : oneCells m = true)
    (hd : o.dst = some d) (hg : o.guard = none) (hN : Nat.ble (d + 1) N = true) (ho : o.op = .call { callee := .builtin .append, args := #[s, x], argTypes := #[t, t] })
    (ht : tlook T t = some (.slice el)) (hs : evO e s = some (.slice A n c)) (hx : evO e x = some (.slice Ar 1 cr)) (hi : L[i]? = some (.row A1 c1 el 1 k1 (List.replicate k1 m))) (hj : L[j]? = some (.row A2 c2 el 1 k2 (List.replicate k2 m))) (hij : i ≠ j)
    (hin : (A = A1 ∧ c = c1 ∧ n ≤ k1) ∨ (A = A2 ∧ c = c2 ∧ n ≤ k2))
    (hb : (n + 1) * bytes ≤ 140737488355328) (hmax : n + 1 ≤ 9223372036854775807)
    (h : ∀ A' c' k1' A2' c2' k2' w', k1 ≤ k1' → ((A' = A1 ∧ c' = c1 ∧ n + 1 ≤ k1') ∨ (A' = A2' ∧ c' = c2' ∧ n + 1 ≤ k2')) → St B w0 w' ((L.set i (.row A1 c1 el 1 k1' (List.replicate k1' m))).set j (.row A2' c2' el 1 k2' (List.replicate k2' m))) → GL P N ops ((d, .slice A' (n + 1) c') :: e) rest Q w') : GL P N ops e (o :: rest) Q w := by
  have hjl := (List.getElem?_eq_some_iff.1 hj).1
  have hil := (List.getElem?_eq_some_iff.1 hi).1
  have hLi : L.set i (.row A1 c1 el 1 k1 (List.replicate k1 m)) = L := by
    apply List.ext_getElem?; intro q
    rw [List.getElem?_set]; split
    · rename_i hq; subst hq; first | exact hi.symm | (rw [if_pos hil]; exact hi.symm)
    · rfl
  have hLj : ∀ X, (L.set i X).set j (.row A2 c2 el 1 k2 (List.replicate k2 m)) = L.set i X := fun X => by
    apply List.ext_getElem?; intro q
    rw [List.getElem?_set]; split
    · rename_i hq; subst hq; rw [List.getElem?_set_ne hij]; first | exact hj.symm | (rw [List.length_set, if_pos hjl]; exact hj.symm)
    · rfl
  rcases hin with ⟨rfl, rfl, hn⟩ | ⟨rfl, rfl, hn⟩
  · refine gl_appendM i hT hS hel hr h1 hd hg hN ho ht hs hx hi hn hb hmax (fun hroom w' hS => ?_) (fun A' c' w' hS => ?_)
    · exact h A c _ A2 c2 k2 w' (Nat.le_max_left ..) (.inl ⟨rfl, rfl, Nat.le_max_right ..⟩) (by rw [hLj]; exact hS)
    · exact h A' c' k1 A' c' (n + 1) w' (Nat.le_refl _) (.inr ⟨rfl, rfl, Nat.le_refl _⟩) (by rw [hLi]; exact hS.replace hjl)
  · refine gl_appendM j hT hS hel hr h1 hd hg hN ho ht hs hx hj hn hb hmax (fun hroom w' hS => ?_) (fun A' c' w' hS => ?_)
    · exact h A c k1 A c _ w' (Nat.le_refl _) (.inr ⟨rfl, rfl, Nat.le_max_right ..⟩) (by rw [hLi]; exact hS)
    · exact h A' c' k1 A' c' (n + 1) w' (Nat.le_refl _) (.inr ⟨rfl, rfl, Nat.le_refl _⟩) (by rw [hLi]; exact hS.replace hjl)
theorem rd_rep {ok : Nat → Prop} {A : Option Addr} {n k : Nat} {m : Value} (h : Rd w ok A k 1 (List.replicate k m)) (hn : n ≤ k) : Rd w ok A n 1 (List.replicate n m) := by
  have := h.take hn
  rw [Nat.mul_one, List.take_replicate, Nat.min_eq_left hn] at this
  exact this
end
end Go.Proofs.YtpeomdobcobdiaaDoor
