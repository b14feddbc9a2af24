/- Our own words: more operations. Nothing here speaks of a statement; no condition. -/
import Derived.Test.YtpeomdobcobdiaaDoorLibF
import Derived.Deep.AppendSrc
namespace Go.Proofs.YtpeomdobcobdiaaDoor
open Go.RowKit
set_option linter.unusedVariables false
set_option linter.unusedSimpArgs false
section
variable {P : Program} {N : Nat} {e : Env} {Q : Exit → Act → World → Prop} {w w0 w' : World} {T : TyTab} {B : Nat} {L : List It}
/-- What an item that is a block of cells reads as. -/
theorem St.objRd {α : Type} {enc : α → Value} (hS : St B w0 w L) {i g : Nat} {cur : Array Value} {el : TypeId} {fz : Nat × Nat} {l : List α} (hi : L[i]? = some (.obj g (.cells cur el fz))) (hc : cur.toList.take l.length = l.map enc) : RdE w All enc (some ⟨g, 0, none⟩) l := by
  have hb := hS.at hi
  refine ⟨by simp, fun _ => ⟨_, rfl, trivial, fun j u hu => ?_⟩⟩
  have hadd : (⟨g, 0, none⟩ : Addr).add j = ⟨g, j, none⟩ := by unfold Addr.add; split <;> simp_all
  rw [hadd, cell_of_row w g j cur el fz hb.2]
  rw [← hc, List.getElem?_take] at hu
  split at hu
  · simpa using hu
  · cases hu
/-- '[]byte("..")' of a constant. -/
theorem gl_mark {ops : Array Oper} {o : Oper} {rest : List Oper} {d : Nat} {t el : TypeId} {x : Operand} {g n c k m : Nat} {cs : List Value} (i : Nat) (hT : TabOk P T) (hS : St B w0 w L) (hd : o.dst = some d) (hg : o.guard = none) (hN : Nat.ble (d + 1) N = true)
    (ho : o.op = .convert t t x) (ht : tlook T t = some (.slice el)) (he : tlook T el = some (.int .u8)) (hx : evO e x = some (.slice (some ⟨g, 0, none⟩) n c)) (hi : L[i]? = some (.row (some ⟨g, 0, none⟩) k el 1 m cs))
    (h : ∀ w' cur fz, cur.toList.take m = cs → St B w0 w' (L.set i (.obj g (.cells cur el fz))) → GL P N ops ((d, .slice (some ⟨g, 0, none⟩) n c) :: e) rest Q w') : GL P N ops e (o :: rest) Q w := by
  have ho2 : Owns w B (some ⟨g, 0, none⟩) k el 1 m cs := hS.at hi
  rcases ho2.2 with ⟨h1, _⟩ | ⟨g', cap, cur, hv, hB, hh, h3, h4, h5, h6, h7⟩
  · cases h1
  · injection hv with hv; injection hv with hv _; subst hv
    have hlt := (Array.getElem?_eq_some_iff.1 hh).1
    refine gl_step (w' := w.freeze ⟨g, cur.size, none⟩ 1) hd (Nat.le_of_ble_eq_true hN) hg (fun a ha => ?_) (h _ cur (cur.size, cur.size + 1) (by rw [Nat.mul_one] at h7; exact h7) (hS.update hi rfl rfl rfl (by simp [World.freeze]) (fun b hb hf => ?_) ?_ ?_))
    · have hsh : w.shape? g = some (el, cur.size) := by simp [World.shape?, hh]
      have hmk : (markStringish ⟨g, 0, none⟩).run P w = .ok () (w.freeze ⟨g, cur.size, none⟩ 1) := by
        simp [markStringish, shape, Sem.run, hsh, freeze]
      have hcv : (convert t t (.slice (some ⟨g, 0, none⟩) n c)).run P w = .ok (.slice (some ⟨g, 0, none⟩) n c) (w.freeze ⟨g, cur.size, none⟩ 1) := by
        simp [convert, run_underlying (hT.at ht), run_underlying (hT.at he), hmk]
      simp only [execOp, ho, ha.eval hx, Sem.run_bind, hcv, Result.andThen_ok, Sem.run_pure]
    · have hne : b ≠ g := fun e => hf ⟨_, rfl, e.symm⟩
      simp [World.freeze, Array.getElem?_modify, Ne.symm hne]
    · refine ⟨hB, ?_⟩
      simp [World.freeze, Array.getElem?_modify, hh]
    · rintro b rfl; exact .inl ⟨_, rfl, rfl⟩
theorem yielded_none {a : Act} {ops : Array Oper} {j t : Nat} (hj : ((ops[j]?).bind (·.dst)) = some t) (ha : Fr N a e) (hl : look e t = some undef) : yielded ops a.tmps j = none := by
  have := ha.get t _ hl
  unfold yielded
  revert hj
  cases h : ops[j]? with
  | none => simp
  | some o =>
    simp only [Option.bind_some]
    intro ho
    simp [ho, this, undef]
/-- An operation whose guard's own operation was passed over. -/
theorem gl_none {ops : Array Oper} {o : Oper} {rest : List Oper} {d : Nat} (hd : o.dst = some d) {j t : Nat} {want : Bool} (hg : o.guard = some (j, want))
    (hj : ((ops[j]?).bind (·.dst)) = some t) (hl : look e t = some undef)
    (hN : Nat.ble (d + 1) N = true) (h : GL P N ops ((d, undef) :: e) rest Q w) : GL P N ops e (o :: rest) Q w := by
  intro a ha
  refine wpList_step fun K hK => ?_
  have hw : Region.wanted o (yielded ops a.tmps) = false := by
    simp [Region.wanted, hg, yielded_none hj ha hl]
  rw [if_neg (by rw [hw]; simp), hd]
  exact hK _ _ (h _ (ha.put (Nat.le_of_ble_eq_true hN) undef))
theorem gq_none {ops : Array Oper} {o : Oper} {rest : List Oper} {d : Nat} {Qa : Act → Prop} (hd : o.dst = some d) {j t : Nat} {want : Bool} (hg : o.guard = some (j, want))
    (hj : ((ops[j]?).bind (·.dst)) = some t) (hl : look e t = some undef)
    (hN : Nat.ble (d + 1) N = true) (h : GQ P N ops ((d, undef) :: e) rest (Eqv w) Qa) : GQ P N ops e (o :: rest) (Eqv w) Qa := by
  intro a ha
  refine wpQuiet_step fun K hK => ?_
  have hw : Region.wanted o (yielded ops a.tmps) = false := by
    simp [Region.wanted, hg, yielded_none hj ha hl]
  rw [if_neg (by rw [hw]; simp), hd]
  exact hK _ (h _ (ha.put (Nat.le_of_ble_eq_true hN) undef))
/-- A remainder by what is not 0. -/
theorem op_remv {o : Oper} {t yt : TypeId} {x y : Operand} {k : IntKind} {a b : Int} (ho : o.op = .binOp .rem t x y yt) (hx : evO e x = some (.int k a)) (hy : evO e y = some (.int k b)) (hb : b ≠ 0) : OpR P N e w o (.int k (a.tmod b)) := by
  intro q c ha
  simp [execOp, ho, ha.eval hx, ha.eval hy, eqGuard, binOp, Op.intDiv, hb, Sem.run_bind, Sem.run_pure]
theorem op_quov {o : Oper} {t yt : TypeId} {x y : Operand} {k : IntKind} {a b : Int} (ho : o.op = .binOp .quo t x y yt) (hx : evO e x = some (.int k a)) (hy : evO e y = some (.int k b)) (hb : b ≠ 0) : OpR P N e w o (.int k (k.wrap (a.tdiv b))) := by
  intro q c ha
  simp [execOp, ho, ha.eval hx, ha.eval hy, eqGuard, binOp, Op.intDiv, hb, Sem.run_bind, Sem.run_pure]
theorem RdE.pre {α : Type} {ok : Nat → Prop} {enc : α → Value} {A : Option Addr} {l : List α} (h : RdE w ok enc A l) {k : Nat} (hk : k ≤ l.length) : Rd w ok A k 1 ((l.take k).map enc) := by
  have := h.take k
  unfold RdE at this
  rw [List.length_take, Nat.min_eq_left hk] at this
  exact this
theorem RdE.suf {α : Type} {ok : Nat → Prop} {enc : α → Value} {A : Option Addr} {l : List α} (h : RdE w ok enc A l) {k cap : Nat} (hk : k ≤ l.length) (hc : l.length ≤ cap) :
    Rd w ok (if cap = k then A else A.map (·.add (k * 1))) (l.length - k) 1 ((l.drop k).map enc) := by
  have := h.drop hk hc
  unfold RdE at this
  rw [List.length_drop] at this
  exact this
theorem u8_mod (x : Int) : Value.int .u8 (IntKind.u8.wrap x) = uB (UInt8.ofNat (x % 256).toNat) := by
  have h0 : 0 ≤ x % 256 := by omega
  have h1 : x % 256 < 256 := by omega
  rw [IntKind.wrap_u8]
  unfold uB
  rw [UInt8.toNat_ofNat']
  congr 1
  omega
/-! ### append(b, text...) -/
theorem run_appendS {base : Nat} {t tx ty el : TypeId} {z : Value} {bytes : Nat} (ht : P.underlying t = some (.slice el)) (htx : P.underlying tx = some .string) (hel : Elem P el z 1 bytes) (w : World)
    {A : Option Addr} {c n : Nat} {xs : List Value} (hown : Owns w base A c el 1 n xs) (s : ByteArray) (hbytes : (n + s.size) * bytes ≤ 140737488355328) (hmax : n + s.size ≤ 9223372036854775807) (hbase : base ≤ w.heap.size) :
    ∃ A' c' w', (Builtin.append_ #[t, tx] ty #[.slice A n c, .string s]).run P w = .ok (.slice A' (n + s.size) c') w' ∧ Owns w' base A' c' el 1 (n + s.size) (xs ++ s.data.toList.map uB) ∧
      w.grownBy w' (A.map (·.block)) ∧ (A'.map (·.block) = A.map (·.block) ∨ A'.map (·.block) = some w.heap.size) := by
  obtain ⟨i, hi, hz, hsz, hb⟩ := hel.ex
  have hsrc : Src P i.size tx (.string s) s.size (byteCells s) w := by rw [hsz]; exact Src.ofString w htx s
  have hbl : (byteCells s).length = s.size := byteCells_length s
  have hbu : byteCells s = s.data.toList.map uB := rfl
  have hlen : (xs ++ byteCells s).length = (n + s.size) * 1 := by rw [List.length_append, hown.1, hbl]; omega
  have hnx := nextslicecap_le (need := n + s.size) (old := c)
  have hone : ∀ u ∈ byteCells s, u.oneCell' = true := hsrc.one
  rw [← hbu]
  by_cases hroom : n + s.size ≤ c
  · rcases hown.2 with ⟨rfl, rfl, rfl⟩ | ⟨g, cap, cur, rfl, hg, hh, hnc, hcc, hmx, hcs, htk⟩
    · have h0 : s.size = 0 := by omega
      have hxs : xs = [] := List.eq_nil_of_length_eq_zero (by simpa using hown.1)
      have hnb : byteCells s = [] := List.eq_nil_of_length_eq_zero (by omega)
      subst hxs
      refine ⟨none, 0, w, ?_, by rw [hnb, h0]; exact hown, World.grownBy.refl w _, .inl rfl⟩
      have hcl := hsrc.cells
      rw [h0, hnb] at hcl
      simp [Builtin.append_, run_underlying ht, run_underlying htx, sizeOf, typeInfo, hi, Builtin.lenOf, h0, hcl]
    · have hst := run_storeCells_at (P := P) g n el (byteCells s) 0 cur w hh (by rw [hbl]; omega) hone
      have hadd : (⟨g, 0, none⟩ : Addr).add (n * i.size) = ⟨g, n, none⟩ := by rw [hsz]; unfold Addr.add; split <;> simp_all
      refine ⟨some ⟨g, 0, none⟩, c, w.setRow g (cur.toList.take n ++ byteCells s ++ cur.toList.drop (n + (byteCells s).length)).toArray, ?_, ⟨hlen, .inr ⟨g, cap, _, rfl, hg, setRow_heap w g cur _ el _ hh, hroom, hcc, hmx, ?_, ?_⟩⟩, ⟨rfl, rfl, rfl, by simp, fun k _ hk => setRow_other w g k _ (fun e => hk (by simp [e]))⟩, .inl rfl⟩
      · have hcl := hsrc.cells
        simp only [Nat.add_zero] at hst
        simp [Builtin.append_, run_underlying ht, run_underlying htx, sizeOf, typeInfo, hi, hsrc.len, hroom, hcl, hadd, hst]
      · simp only [List.size_toArray, List.length_append, List.length_take, List.length_drop, Array.length_toList, hbl]
        omega
      · have hxt : cur.toList.take n = xs := by simpa using htk
        rw [hxt, ← hlen, List.append_assoc, ← List.append_assoc]
        exact List.take_left
  · have hold : (Builtin.firstCells i.size n (.slice A n c)).run P w.drew = .ok xs.toArray w.drew := by
      rcases hown.2 with ⟨rfl, rfl, rfl⟩ | ⟨g, cap, cur, rfl, hg, hh, hnc, hcc, hmx, hcs, htk⟩
      · have hxs : xs = [] := List.eq_nil_of_length_eq_zero (by simpa using hown.1)
        subst hxs; rfl
      · exact run_firstCells_some w.drew i.size n _ n c xs (by rw [hown.1, hsz]) (fun j u hu => hown.cells rfl j u hu)
    have hfit : Builtin.nextslicecap (n + s.size) c * i.bytes ≤ 281474976710656 := by
      rw [hb]
      have := Nat.mul_le_mul_right bytes (hnx (by omega))
      have e : 2 * (n + s.size) * bytes = 2 * ((n + s.size) * bytes) := Nat.mul_assoc _ _ _
      omega
    have hrun := run_append_grow_src (P := P) w t tx ty el i z ht hi hz A n c xs hold (.string s) s.size (byteCells s) hsrc (by omega) (by omega) hfit
    refine ⟨some ⟨w.heap.size, 0, none⟩, _, _, hrun, ?_, ⟨rfl, rfl, rfl, by simp, fun k hk _ => Below.heap_alloc w.drew _ k hk⟩, .inr rfl⟩
    have := grown_owns hel w hlen hmax hbase c
    simpa using this
theorem gl_appendS {ops : Array Oper} {o : Oper} {rest : List Oper} {d : Nat} {t tx el : TypeId} {s x : Operand} {z : Value} {bytes : Nat} {A : Option Addr} {c n : Nat} {xs : List Value} {str : ByteArray} (i : Nat)
    (hT : TabOk P T) (hS : St B w0 w L) (hel : Elem P el z 1 bytes)
    (hd : o.dst = some d) (hg : o.guard = none) (hN : Nat.ble (d + 1) N = true) (ho : o.op = .call { callee := .builtin .append, args := #[s, x], argTypes := #[t, tx] })
    (ht : tlook T t = some (.slice el)) (htx : tlook T tx = some .string) (hs : evO e s = some (.slice A n c)) (hx : evO e x = some (.string str)) (hi : L[i]? = some (.row A c el 1 n xs))
    (hb : (n + str.size) * bytes ≤ 140737488355328) (hmax : n + str.size ≤ 9223372036854775807)
    (h : ∀ A' c' w', St B w0 w' (L.set i (.row A' c' el 1 (n + str.size) (xs ++ str.data.toList.map uB))) → GL P N ops ((d, .slice A' (n + str.size) c') :: e) rest Q w') : GL P N ops e (o :: rest) Q w := by
  have hown : Owns w B A c el 1 n xs := hS.at hi
  obtain ⟨A', c', w', hrun, h2, h3, h4⟩ := run_appendS (P := P) (ty := o.type) (hT.at ht) (hT.at htx) hel w hown str hb hmax hS.size
  refine gl_step (v := .slice A' (n + str.size) c') (w' := w') hd (Nat.le_of_ble_eq_true hN) hg (fun a ha => ?_) (h A' c' w' (hS.appended hi h2 h3 h4))
  simp only [execOp, ho, resolve, invoke, builtin, Sem.run_bind, Sem.run_pure, Result.andThen_ok, List.map_toArray, List.map_cons, List.map_nil, ha.eval hs, ha.eval hx, hrun]
end
end Go.Proofs.YtpeomdobcobdiaaDoor
