/- Contracts of functions that CodeProps reaches, and words to say them. No condition. -/
import Derived.Test.YtnomlloaahoceaaDoorZ21
import Derived.Test.YtnomlloaahoceaaDoorZ07
/- Our own words: an append onto bytes that were made of a text. No condition. -/
namespace Go.Proofs.YtnomlloaahoceaaDoor
open Go.RowKit
set_option linter.unusedVariables false
set_option linter.unusedSimpArgs false
section
variable {P : Program} {N : Nt} {e : Env} {Q : Exit → Act → World → Prop} {w w0 w' : World} {T : TyTab} {B : Nat} {L : List It}
def ObjRow (X : It) (el : TypeId) (A : Option Addr) (c n : Nat) (cs : List Value) : Prop := ∃ g cur fz, X = .obj g (.cells cur el fz) ∧ A = some ⟨g, 0, none⟩ ∧ c = n ∧ cs.length = n ∧ cur.toList.take n = cs
theorem gl_appendRO {ops : Array Oper} {o : Oper} {rest : List Oper} {d : Nat} {t el : TypeId} {s x : Operand} {z : Value} {bytes : Nat} {A A2 : Option Addr} {c n m c2 : Nat} {xs news : List Value} {ok : Nat → Prop} (i : Nat) {X : It}
    (hT : TabOk P T) (hS : St B w0 w L) (hel : Elem P el z 1 bytes) (hr : Rd w ok A2 m 1 news) (h1 : allOne news = true)
    (hd : o.dst = some d) (hg : o.guard = none) (hN : Nat.ble (d + 1) N = true) (ho : o.op = .call { callee := .builtin .append, args := #[s, x], argTypes := #[t, t] })
    (ht : tlook T t = some (.slice el)) (hs : evO e s = some (.slice A n c)) (hx : evO e x = some (.slice A2 m c2)) (hi : L[i]? = some X) (hX : X = .row A c el 1 n xs ∨ (ObjRow X el A c n xs ∧ 0 < m))
    (hb : (n + m) * bytes ≤ 140737488355328) (hmax : n + m ≤ 9223372036854775807)
    (h : ∀ A' c' w', St B w0 w' (L.set i (.row A' c' el 1 (n + m) (xs ++ news))) → GL P N ops ((d, .slice A' (n + m) c') :: e) rest Q w') : GL P N ops e (o :: rest) Q w := by
  rcases hX with rfl | ⟨⟨g, cur, fz, rfl, rfl, rfl, hxl, htk⟩, hm⟩
  · exact gl_append i hT hS hel hr h1 hd hg hN ho ht hs hx hi hb hmax h
  · obtain ⟨j, hj, hz, hsz, hbb⟩ := hel.ex
    obtain ⟨ad, rfl, _, hc⟩ := hr.2 hm
    have hob : B ≤ g ∧ w.heap[g]? = some (.cells cur el fz) := hS.at hi
    have hcell : ∀ k u, xs[k]? = some u → w.cell? ((⟨g, 0, none⟩ : Addr).add k) = some u := by
      intro k u hk
      have hadd : (⟨g, 0, none⟩ : Addr).add k = ⟨g, k, none⟩ := by unfold Addr.add; split <;> simp_all
      rw [hadd, cell_of_row w g k cur el fz hob.2]
      rw [← htk, List.getElem?_take] at hk
      split at hk
      · simpa using hk
      · cases hk
    have hnx := nextslicecap_le (need := c + m) (old := c) (by omega)
    have hfit : Builtin.nextslicecap (c + m) c * j.bytes ≤ 281474976710656 := by
      rw [hbb]
      have := Nat.mul_le_mul_right bytes hnx
      have e : 2 * (c + m) * bytes = 2 * ((c + m) * bytes) := Nat.mul_assoc _ _ _
      omega
    have hlen : (xs ++ news).length = (c + m) * 1 := by rw [List.length_append, hxl, hr.1]; omega
    have hrun := run_append_grow (P := P) w t o.type el j z (hT.at ht) hj hz ⟨g, 0, none⟩ c c xs (by rw [hxl, hsz, Nat.mul_one]) hcell ad m c2 news (by rw [hr.1, hsz]) hc (by omega) (by omega) hfit
    have ho2 := grown_owns (P := P) hel w (n := B) (need := c + m) (olds := xs) (news := news) hlen hmax hS.size c
    obtain ⟨c', w2, hrun, ho2, k1, k2, k3, k4, k5⟩ : ∃ c' w2, (Builtin.append_ #[t, t] o.type #[.slice (some ⟨g, 0, none⟩) c c, .slice (some ad) m c2]).run P w = .ok (.slice (some ⟨w.heap.size, 0, none⟩) (c + m) c') w2 ∧ Owns w2 B (some ⟨w.heap.size, 0, none⟩) c' el 1 (c + m) (xs ++ news) ∧
        w2.os = w.os ∧ w2.tape = w.tape ∧ w2.output = w.output ∧ w.heap.size ≤ w2.heap.size ∧ ∀ k, k < w.heap.size → w2.heap[k]? = w.heap[k]? := ⟨_, _, hrun, ho2, rfl, rfl, rfl, by simp, fun k hk => Below.heap_alloc w.drew _ k hk⟩
    refine gl_step (v := .slice (some ⟨w.heap.size, 0, none⟩) (c + m) c') (w' := w2) hd (Nat.le_of_ble_eq_true hN) hg (fun a ha => ?_) (h _ _ w2 (hS.update hi k1 k2 k3 k4 (fun b hb hf => k5 b hb) ho2 ?_))
    · simp only [execOp, ho, resolve, invoke, builtin, Sem.run_bind, Sem.run_pure, Result.andThen_ok, List.map_toArray, List.map_cons, List.map_nil, ha.eval hs, ha.eval hx, hrun]
    · rintro b ⟨a, ha, rfl⟩
      injection ha with ha
      subst ha
      exact .inr (Nat.le_refl _)
end
end Go.Proofs.YtnomlloaahoceaaDoor

