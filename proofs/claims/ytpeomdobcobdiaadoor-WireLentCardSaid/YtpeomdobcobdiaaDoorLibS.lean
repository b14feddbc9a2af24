/- Our own words: copy, and room asked for behind what there is. Nothing here speaks of a statement; no condition. -/
import Derived.Test.YtpeomdobcobdiaaDoorLibK
import Derived.Lib.AppendZerosOnto
namespace Go.Proofs.YtpeomdobcobdiaaDoor
open Go.RowKit
set_option linter.unusedVariables false
set_option linter.unusedSimpArgs false
section
variable {P : Program} {N : Nat} {e : Env} {Q : Exit → Act → World → Prop} {w w0 w' : World} {T : TyTab} {B : Nat} {L : List It}
theorem gc_grow_end {i : Nat} {ops : Array Oper} {e e0 : Env} {w : World} {ol : Oper} (hm : P.follows .mixedOrders = true) (he : subEnv e e0) (hol : ops.toList.getLast? = some ol) (hk : keysApart e0 ops.toList.dropLast = true) (hd : dstsApart ops.toList.dropLast = true) (hord : inOrder ops = true) (hcov : coversB ops = true)
    (h : GG P N ops w e0 (fun _ a w1 => wpList P ops Q [ol] a w1) ops.toList.dropLast []) : GC P N e (.region i ops true) Q w := by
  refine gc_grow_last hm he ?_ hk hd hord hcov h
  have hne : ops.toList ≠ [] := by intro he; rw [he] at hol; cases hol
  rw [List.getLast?_eq_some_getLast hne] at hol
  injection hol with hol
  rw [← hol, List.dropLast_concat_getLast hne]
/-- append(x, make([]T, k)...) where there is no room. -/
theorem gl_roomG {ops : Array Oper} {o : Oper} {rest : List Oper} {d : Nat} {t tn el : TypeId} {kn kq : IntKind} {s x : Operand} {z : Value} {sz bytes n c k : Nat} {A : Option Addr} {xs : List Value} (i : Nat)
    (hT : TabOk P T) (hS : St B w0 w L) (hel : Elem P el z sz bytes) (hd : o.dst = some d) (hg : o.guard = none) (hN : Nat.ble (d + 1) N = true) (ho : o.op = .call { callee := .builtin .append, args := #[s, x], argTypes := #[t, tn] })
    (ht : tlook T t = some (.slice el)) (htn : tlook T tn = some (.int kn)) (hs : evO e s = some (.slice A n c)) (hx : evO e x = some (.int kq (k : Int))) (hi : L[i]? = some (.row A c el sz n xs)) (h0 : 0 < k) (hsz : 0 < sz) (hroom : c < n + k) (hb : (n + k) * bytes ≤ 140737488355328) (hmax : n + k ≤ 9223372036854775807)
    (h : ∀ A' c' w', St B w0 w' (L ++ [.row A' c' el sz (n + k) (xs ++ (Builtin.zeroCells z.cells k).toList)]) → GL P N ops ((d, .slice A' (n + k) c') :: e) rest Q w') : GL P N ops e (o :: rest) Q w := by
  obtain ⟨inf, hi', hz, hsz', hb'⟩ := hel.ex
  have hown : Owns w B A c el sz n xs := hS.at hi
  have hold : (Builtin.firstCells inf.size n (.slice A n c)).run P w.drew = .ok xs.toArray w.drew := by
    rcases hown.2 with ⟨rfl, rfl, rfl⟩ | ⟨g, cap, cur, rfl, hg, hh, hnc, hcc, hmx, hcs, htk⟩
    · have hxs : xs = [] := List.eq_nil_of_length_eq_zero (by simpa using hown.1)
      subst hxs; rfl
    · exact run_firstCells_some w.drew inf.size n _ n c xs (by rw [hown.1, hsz']) (fun j u hu => hown.cells rfl j u hu)
  have hkb : k * bytes ≤ (n + k) * bytes := Nat.mul_le_mul_right _ (by omega)
  have hfit : Builtin.nextslicecap (n + k) c * inf.bytes ≤ 281474976710656 := by
    rw [hb']
    have := Nat.mul_le_mul_right bytes (nextslicecap_le (need := n + k) (old := c) (by omega))
    have e : 2 * (n + k) * bytes = 2 * ((n + k) * bytes) := Nat.mul_assoc _ _ _
    omega
  have hrun := Lib.run_append_grow_zeros (P := P) w t tn o.type el inf z kq kn (hT.at ht) (hT.at htn) hi' hz A n c xs hold k h0 (by omega) hroom (by omega) (by rw [hb']; omega) hfit
  have hlen : (xs ++ (Builtin.zeroCells z.cells k).toList).length = (n + k) * sz := by
    rw [List.length_append, hown.1, Array.length_toList, size_zeroCells, hel.zs, Nat.add_mul]
  refine gl_step hd (Nat.le_of_ble_eq_true hN) hg (fun a ha => ?_) (h (some ⟨w.heap.size, 0, none⟩) (grownCap w (n + k) c el) (w.drew.alloc (.cells (xs.toArray ++ Builtin.zeroCells z.cells k ++ Builtin.zeroCells z.cells (grownCap w (n + k) c el - (n + k))) el)) (hS.add rfl rfl rfl (by simp) (fun b hb => Below.heap_alloc w.drew _ b hb) ?_ ?_))
  · simp only [execOp, ho, resolve, invoke, builtin, Sem.run_bind, Sem.run_pure, Result.andThen_ok, List.map_toArray, List.map_cons, List.map_nil, ha.eval hs, ha.eval hx, hrun]
  · have := grown_owns (P := P) hel w (n := B) (need := n + k) (olds := xs) (news := (Builtin.zeroCells z.cells k).toList) hlen hmax hS.size c
    simpa [It.ok] using this
  · rintro b ⟨a, h, rfl⟩; injection h with h; rw [← h]; exact Nat.le_refl _
theorem splice_at {α : Type} (l news : List α) (off m j : Nat) (hn : news.length = m) (hl : off + m ≤ l.length) : (l.take off ++ news ++ l.drop (off + m))[j]? = if j < off then l[j]? else if j < off + m then news[j - off]? else l[j]? := by
  have e1 : (l.take off).length = off := by simp; omega
  have e2 : (l.take off ++ news).length = off + m := by simp; omega
  by_cases h8 : j < off
  · rw [if_pos h8, List.getElem?_append_left (by omega), List.getElem?_append_left (by omega), List.getElem?_take, if_pos h8]
  · rw [if_neg h8]
    by_cases h9 : j < off + m
    · rw [if_pos h9, List.getElem?_append_left (by omega), List.getElem?_append_right (by omega), e1]
    · rw [if_neg h9, List.getElem?_append_right (by omega), e2, List.getElem?_drop]
      congr 1; omega
theorem splice_take {α : Type} (l news : List α) (off m n : Nat) (hn : news.length = m) (h : off + m ≤ n) (hl : n ≤ l.length) :
    (l.take off ++ news ++ l.drop (off + m)).take n = (l.take n).take off ++ news ++ (l.take n).drop (off + m) := by
  apply List.ext_getElem?
  intro j
  rw [List.getElem?_take, splice_at l news off m j hn (by omega), splice_at (l.take n) news off m j hn (by simp; omega), List.getElem?_take]
  by_cases hj : j < n
  · simp [hj]
  · simp only [hj, if_false]
    rw [if_neg (by omega), if_neg (by omega)]
/-- copy(x[off:..], y), as many as there are places for. -/
theorem gl_copyR {ops : Array Oper} {o : Oper} {rest : List Oper} {d : Nat} {t tx el : TypeId} {x y : Operand} {g off dc n c m c2 : Nat} {A2 : Option Addr} {z : Value} {bytes : Nat} {xs news : List Value} {ok : Nat → Prop} (i : Nat)
    (hT : TabOk P T) (hS : St B w0 w L) (hel : Elem P el z 1 bytes) (hr : Rd w ok A2 m 1 news) (h1 : allOne news = true)
    (hd : o.dst = some d) (hg : o.guard = none) (hN : Nat.ble (d + 1) N = true) (ho : o.op = .call { callee := .builtin .copy, args := #[x, y], argTypes := #[t, tx] })
    (ht : tlook T t = some (.slice el)) (hx : evO e x = some (.slice (some ⟨g, off, none⟩) m dc)) (hy : evO e y = some (.slice A2 m c2)) (hi : L[i]? = some (.row (some ⟨g, 0, none⟩) c el 1 n xs)) (hoff : off + m ≤ n)
    (h : ∀ w', St B w0 w' (L.set i (.row (some ⟨g, 0, none⟩) c el 1 n (xs.take off ++ news ++ xs.drop (off + m)))) → GL P N ops ((d, .int .i64 m) :: e) rest Q w') : GL P N ops e (o :: rest) Q w := by
  obtain ⟨inf, hi', hz, hsz', hb'⟩ := hel.ex
  have hown : Owns w B (some ⟨g, 0, none⟩) c el 1 n xs := hS.at hi
  rcases hown.2 with ⟨h2, _⟩ | ⟨g', cap, cur, hA, hB, hh, h3, h4, h5, h6, h7⟩
  · cases h2
  injection hA with hA; injection hA with hA _; subst hA
  have hnl : news.length = m := by simpa using hr.1
  have hst := run_storeCells_at (P := P) g off el news 0 cur w hh (by omega) (fun u hu => oneCell'_of (allOne_mem h1 u hu))
  have hf : (Builtin.firstCells 1 m (.slice A2 m c2)).run P w = .ok news.toArray w := by
    rcases Nat.eq_zero_or_pos m with h0 | h0
    · have : news = [] := List.eq_nil_of_length_eq_zero (by omega)
      subst this; subst h0
      cases A2 with
      | none => rfl
      | some a => simp [Builtin.firstCells, loadCells, loadCellsFrom]
    · obtain ⟨ad, rfl, _, hc⟩ := hr.2 h0
      exact run_firstCells_some w 1 m ad m c2 news (by omega) hc
  simp only [Nat.add_zero] at hst
  have hxt : xs = cur.toList.take n := by rw [Nat.mul_one] at h7; exact h7.symm
  refine gl_step (v := .int .i64 m) (w' := w.setRow g (cur.toList.take off ++ news ++ cur.toList.drop (off + news.length)).toArray) hd (Nat.le_of_ble_eq_true hN) hg (fun a ha => ?_) (h _ (hS.update hi rfl rfl rfl (by simp) (fun b _ hf => setRow_other w g b _ (fun e => hf ⟨_, rfl, e.symm⟩)) (?_ : Owns _ B (some ⟨g, 0, none⟩) c el 1 n _) (fun b hb => .inl hb)))
  · have hcp : (Builtin.copy_ #[t, tx] o.type #[.slice (some ⟨g, off, none⟩) m dc, .slice A2 m c2]).run P w = .ok (.int .i64 m) (w.setRow g (cur.toList.take off ++ news ++ cur.toList.drop (off + news.length)).toArray) := by
      have hmin : Nat.min m m = m := Nat.min_self m
      simp [Builtin.copy_, run_underlying (hT.at ht), Builtin.lenOf, sizeOf, typeInfo, hi', hsz', hf, hmin]
      simp only [List.append_assoc] at hst ⊢
      rw [hst]
      simp [goInt]
    simp only [execOp, ho, resolve, invoke, builtin, Sem.run_bind, Sem.run_pure, Result.andThen_ok, List.map_toArray, List.map_cons, List.map_nil, ha.eval hx, ha.eval hy, hcp]
  · have hcl : cur.toList.length = cur.size := Array.length_toList
    refine ⟨?_, .inr ⟨g, cap, _, rfl, hB, setRow_heap w g cur _ el _ hh, h3, h4, h5, ?_, ?_⟩⟩
    · have := hown.1
      simp only [List.length_append, List.length_take, List.length_drop, hnl]; omega
    · simp only [List.size_toArray, List.length_append, List.length_take, List.length_drop, hcl, hnl]; omega
    · rw [Nat.mul_one, hxt]
      simp only [hnl]
      exact splice_take cur.toList news off m n hnl hoff (by omega)
theorem Owns.addr {w : World} {B : Nat} {A : Option Addr} {c : Nat} {el : TypeId} {sz m : Nat} {cs : List Value} (h : Owns w B A c el sz m cs) (hm : 0 < m) : ∃ g, A = some ⟨g, 0, none⟩ := by
  rcases h.2 with ⟨_, _, h3⟩ | ⟨g, cap, cur, hv, _⟩
  · omega
  · exact ⟨g, hv⟩
/-- &x.f -/
theorem op_fieldAddr {o : Oper} {s : TypeId} {x : Operand} {k : Nat} {fields : Array Field} {f : Field} {ad : Addr} {z : Value} {sz bytes : Nat} (ho : o.op = .fieldAddr s x k) (hs : P.underlying s = some (.struct fields)) (hf : fields[k]? = some f) (hel : Elem P f.type z sz bytes) (hsz : 0 < sz)
    (hx : evO e x = some (.pointer (some ad))) : OpR P N e w o (.pointer (some (ad.add f.offset))) := by
  intro q a ha
  have h1 := hel.run_size (World.dr w q)
  have hne : ¬ sz = 0 := by omega
  simp [execOp, ho, ha.eval hx, Instr.fieldAt, Instr.sureAddr, fieldPlace, run_underlying hs, hf, h1, hne, Sem.run_bind, Sem.run_pure]
end
end Go.Proofs.YtpeomdobcobdiaaDoor
