/- Our own words: arrays and structs that are built, stored and indexed; texts that are made and ranged over; room asked for. Nothing here speaks of a statement; no condition. -/
import Derived.Test.YtpeomdobcobdiaaDoorLibE
import Derived.Lib.AppendZeros
import Derived.Lib.OthersKept
import Derived.Laws.CopyRow
import Derived.Laws.BytesString
namespace Go.Proofs.YtpeomdobcobdiaaDoor
open Go.RowKit
set_option linter.unusedVariables false
set_option linter.unusedSimpArgs false
section
variable {P : Program} {N : Nat} {e : Env} {Q : Exit → Act → World → Prop} {w w0 w' : World} {T : TyTab} {B : Nat} {L : List It}
/-! ### texts -/
/-- A text of these bytes. -/
def strB (l : List UInt8) : ByteArray := ⟨l.toArray⟩
theorem strB_size (l : List UInt8) : (strB l).size = l.length := by simp [strB, ByteArray.size]
theorem strB_toList (l : List UInt8) : (strB l).data.toList = l := by simp [strB]
theorem strB_data (s : ByteArray) : strB s.data.toList = s := by cases s; simp [strB]
theorem strB_inj {a b : List UInt8} (h : strB a = strB b) : a = b := by
  have := congrArg (fun s => s.data.toList) h
  simpa [strB] using this
theorem foldl_push (l : List UInt8) : ∀ s : ByteArray, (l.map fun b => (b.toNat : Int)).foldl (fun r n => r.push (UInt8.ofNat n.toNat)) s = ⟨s.data ++ l.toArray⟩ := by
  induction l with
  | nil => intro s; cases s; simp
  | cons x l ih =>
    intro s
    simp only [List.map_cons, List.foldl_cons, ih]
    cases s
    simp [ByteArray.push]
theorem op_b2s {o : Oper} {s d u8 : TypeId} {x : Operand} {A : Option Addr} {n c : Nat} {l : List UInt8} {ok : Nat → Prop} (hT : TabOk P T) (hr : RdE w ok uB A l) (ho : o.op = .convert s d x) (hs : tlook T s = some (.slice u8))
    (hu0 : tlook T u8 = some (.int .u8)) (hd : tlook T d = some .string) (hx : evO e x = some (.slice A n c)) (hn : n = l.length) : OpR P N e w o (.string (strB l)) := by
  subst hn
  have hu := hT.at hu0
  intro q a ha
  have hc := run_convert_bytes_string (P := P) (World.dr w q) s d u8 A l.length c (hT.at hs) hu (hT.at hd)
  have hv : (Conv.bytesToString (.slice A l.length c)).run P (World.dr w q) = .ok (.string (strB l)) (World.dr w q) := by
    cases A with
    | none =>
      have hl : l.length = 0 := by
        rcases Nat.eq_zero_or_pos l.length with h | h
        · exact h
        · obtain ⟨ad, h1, _⟩ := hr.2 h; cases h1
      have : l = [] := List.eq_nil_of_length_eq_zero hl
      subst this
      rfl
    | some ad =>
      have hl := run_loadCells_list (P := P) (World.dr w q) ad (l.map uB) (fun j v hj => by
        have hpos : 0 < l.length := by
          have := (List.getElem?_eq_some_iff.1 hj).1; simp at this; omega
        obtain ⟨ad', h1, _, h2⟩ := hr.2 hpos
        injection h1 with h1; subst h1
        exact (h2 j v hj : w.cell? (ad.add j) = some v))
      have e1 : l.map uB = (l.map fun b => (b.toNat : Int)).map (Value.int .u8) := by simp [uB]
      rw [e1] at hl
      have hl2 : (loadCells ad l.length).run P (World.dr w q) = .ok ((l.map fun b => (b.toNat : Int)).map (Value.int .u8)).toArray (World.dr w q) := by
        have := hl; simp only [List.length_map] at this; exact this
      rw [run_bytesToString (World.dr w q) ad l.length c _ hl2, foldl_push]
      simp [strB]
  simp only [execOp, ho, ha.eval hx, Sem.run_bind, hc, hv, Result.andThen_ok, Sem.run_pure]
/-- 'range' over a text. -/
theorem gl_range {ops : Array Oper} {o : Oper} {rest : List Oper} {d : Nat} {t : TypeId} {x : Operand} {s : ByteArray}
    (hT : TabOk P T) (hS : St B w0 w L) (hd : o.dst = some d) (hg : o.guard = none) (hN : Nat.ble (d + 1) N = true) (ho : o.op = .range t x) (ht : tlook T t = some .string) (hx : evO e x = some (.string s))
    (h : ∀ g w', St B w0 w' (L ++ [.obj g (.stringIter s 0)]) → GL P N ops ((d, .pointer (some ⟨g, 0, none⟩)) :: e) rest Q w') : GL P N ops e (o :: rest) Q w := by
  refine gl_step (v := .pointer (some ⟨w.heap.size, 0, none⟩)) (w' := w.iter s 0) hd (Nat.le_of_ble_eq_true hN) hg (fun a ha => ?_) (h _ _ (hS.add rfl rfl rfl (by show _ ≤ (w.heap.push _).size; simp) (fun b hb => ?_) ?_ ?_))
  · simp only [execOp, ho, ha.eval hx, Sem.run_bind, run_range_string w t s (hT.at ht), Result.andThen_ok, Sem.run_pure]
  · exact Below.heap_alloc _ _ b hb
  · exact ⟨hS.size, World.iter_heap w s 0⟩
  · rintro b rfl; exact Nat.le_refl _
theorem St.iter (hS : St B w0 w L) {i g : Nat} {s : ByteArray} {p : Nat} (hi : L[i]? = some (.obj g (.stringIter s p))) (p' : Nat) : St B w0 (w.iterAt g s p') (L.set i (.obj g (.stringIter s p'))) := by
  have hb := hS.at hi
  exact hS.update hi rfl rfl rfl (by rw [Lib.iterAt_size]; exact Nat.le_refl _) (fun b _ hf => Lib.iterAt_other w g b s p' hf) ⟨hb.1, Lib.iterAt_heap w g s p p' hb.2⟩ (fun b hb => .inl hb)
theorem gl_next {ops : Array Oper} {o : Oper} {rest : List Oper} {d : Nat} {x : Operand} {s : ByteArray} {g p : Nat} (i : Nat)
    (hS : St B w0 w L) (hd : o.dst = some d) (hg : o.guard = none) (hN : Nat.ble (d + 1) N = true) (ho : o.op = .next x true) (hx : evO e x = some (.pointer (some ⟨g, 0, none⟩))) (hi : L[i]? = some (.obj g (.stringIter s p)))
    (h1 : p < s.size → ∀ w', St B w0 w' (L.set i (.obj g (.stringIter s (p + (Utf8.decode s p).2)))) → GL P N ops ((d, .tuple #[.bool true, .int .i64 p, .int .i32 (Utf8.decode s p).1]) :: e) rest Q w')
    (h2 : s.size ≤ p → GL P N ops ((d, .tuple #[.bool false]) :: e) rest Q w) : GL P N ops e (o :: rest) Q w := by
  have hb := hS.at hi
  rcases Nat.lt_or_ge p s.size with hp | hp
  · refine gl_step (w' := w.iterAt g s (p + (Utf8.decode s p).2)) hd (Nat.le_of_ble_eq_true hN) hg (fun a ha => ?_) (h1 hp _ (hS.iter hi _))
    simp only [execOp, ho, ha.eval hx, Sem.run_bind, Lib.run_next_any_at w g s p o.type hb.2 hp, Result.andThen_ok, Sem.run_pure]
  · refine gl_step (w' := w) hd (Nat.le_of_ble_eq_true hN) hg (fun a ha => ?_) (h2 hp)
    simp only [execOp, ho, ha.eval hx, Sem.run_bind, Lib.run_next_end_at w g s p o.type hb.2 (by omega), Result.andThen_ok, Sem.run_pure]
/-! ### room -/
/-- append(nil, make([]T, n)...) -/
theorem gl_room {ops : Array Oper} {o : Oper} {rest : List Oper} {d : Nat} {t tn el : TypeId} {kn k : IntKind} {s x : Operand} {z : Value} {sz bytes n : Nat}
    (hT : TabOk P T) (hS : St B w0 w L) (hel : Elem P el z sz bytes) (hd : o.dst = some d) (hg : o.guard = none) (hN : Nat.ble (d + 1) N = true) (ho : o.op = .call { callee := .builtin .append, args := #[s, x], argTypes := #[t, tn] })
    (ht : tlook T t = some (.slice el)) (htn : tlook T tn = some (.int kn)) (hs : evO e s = some (.slice none 0 0)) (hx : evO e x = some (.int k (n : Int))) (h0 : 0 < n) (hsz : 0 < sz) (hb : n * bytes ≤ 281474976710656) (hmax : n ≤ 9223372036854775807)
    (h : ∀ A c w', St B w0 w' (L ++ [.row A c el sz n (Builtin.zeroCells z.cells n).toList]) → GL P N ops ((d, .slice A n c) :: e) rest Q w') : GL P N ops e (o :: rest) Q w := by
  obtain ⟨i, hi, hz, hsz', hb'⟩ := hel.ex
  have hrun := Lib.run_append_nil_zeros (P := P) w t tn o.type el i z k kn (hT.at ht) (hT.at htn) hi hz n h0 (by omega) (by omega) (by rw [hb']; exact hb)
  refine gl_step hd (Nat.le_of_ble_eq_true hN) hg (fun a ha => ?_) (h (some ⟨w.heap.size, 0, none⟩) (grownCap w n 0 el) (w.drew.alloc (.cells (Builtin.zeroCells z.cells n ++ Builtin.zeroCells z.cells (grownCap w n 0 el - n)) el)) (hS.add rfl rfl rfl (by simp) (fun b hb => Below.heap_alloc w.drew _ b hb) ?_ ?_))
  · simp only [execOp, ho, resolve, invoke, builtin, Sem.run_bind, Sem.run_pure, Result.andThen_ok, List.map_toArray, List.map_cons, List.map_nil, ha.eval hs, ha.eval hx, hrun]
  · have hlen : (Builtin.zeroCells z.cells n).toList.length = n * sz := by rw [Array.length_toList, size_zeroCells, hel.zs]
    have := grown_owns (P := P) hel w (n := B) (need := n) (olds := []) (news := (Builtin.zeroCells z.cells n).toList) (by simpa using hlen) hmax hS.size 0
    simpa [It.ok] using this
  · rintro b ⟨a, h, rfl⟩; injection h with h; rw [← h]; exact Nat.le_refl _
/-- x[:0] of a row: the same memory, all of it room. -/
theorem St.cut0 (hS : St B w0 w L) {i : Nat} {A : Option Addr} {c : Nat} {el : TypeId} {sz m : Nat} {cs : List Value} (hi : L[i]? = some (.row A c el sz m cs)) (k : Nat) (hk : k ≤ m) : St B w0 w (L.set i (.row A c el sz k (cs.take (k * sz)))) := by
  have ho : Owns w B A c el sz m cs := hS.at hi
  refine hS.update hi rfl rfl rfl (Nat.le_refl _) (fun _ _ _ => rfl) (?_ : Owns w B A c el sz k (cs.take (k * sz))) (fun b hb => .inl hb)
  refine ⟨by rw [List.length_take, ho.1]; exact Nat.min_eq_left (Nat.mul_le_mul_right _ hk), ?_⟩
  rcases ho.2 with ⟨h1, h2, h3⟩ | ⟨g, cap, cur, hv, hg, hh, h3, h4, h5, h6, h7⟩
  · exact .inl ⟨h1, h2, by omega⟩
  · refine .inr ⟨g, cap, cur, hv, hg, hh, by omega, h4, h5, h6, ?_⟩
    rw [← h7, List.take_take, Nat.min_eq_left (Nat.mul_le_mul_right _ hk)]
/-! ### arrays -/
theorem fill_row {a : Act} (ha : Fr N a e) : ∀ (ps : List (Nat × Operand)) (j : Nat) (vs : List Value) (done todo : List Value), evParts e j ps = some vs → done.length = j → todo.length = vs.length → (∀ v ∈ vs, oneCells v = true) →
    Instr.fill (fun i => some (i * 1, 1)) ⟨done ++ todo⟩ (ps.map fun (i, x) => (i, a.eval x)) = some ⟨done ++ vs⟩ := fun ps j vs done todo h1 h2 h3 h4 => fill_ones ha ps j vs done todo h1 h2 h3 h4
/-- An array, all its elements told, of one cell each. -/
theorem op_buildA {o : Oper} {t el : TypeId} {k : Nat} {ps : List (Nat × Operand)} {vs : List Value} {z z1 : Value} {sz bytes b1 : Nat} (hT : TabOk P T) (ho : o.op = .build t ⟨ps⟩) (ht : tlook T t = some (.array k el)) (hel : Elem P t z sz bytes) (he1 : Elem P el z1 1 b1)
    (hv : evParts e 0 ps = some vs) (hk : vs.length = sz) (h1 : allOne vs = true) : OpR P N e w o (.agg ⟨vs⟩) := by
  intro q a ha
  obtain ⟨i, hi, hz, _, _⟩ := hel.ex
  have hzv : (zeroValue t).run P (World.dr w q) = .ok z (World.dr w q) := by simp [zeroValue, typeInfo, hi, hz]
  have hf := fill_ones ha ps 0 vs [] z.cells.toList hv rfl (by rw [Array.length_toList, hel.zs, hk]) (allOne_mem h1)
  simp only [List.nil_append] at hf
  have hpm : (Array.map (fun (x : Nat × Operand) => (x.1, a.eval x.2)) ⟨ps⟩).toList = ps.map fun (i, x) => (i, a.eval x) := by simp
  have hza : z.cells = ⟨z.cells.toList⟩ := by simp
  rw [← hza] at hf
  simp only [execOp, ho, Instr.build, Sem.run_bind, hzv, Result.andThen_ok, run_underlying (hT.at ht), he1.run_size (World.dr w q), hpm, hf, Sem.run_pure]
/-- A whole value stored over a block of as many cells. -/
theorem gl_storeA {ops : Array Oper} {o : Oper} {rest : List Oper} {t bt : TypeId} {x y : Operand} {g : Nat} {vs cs : List Value} {z : Value} {sz bytes : Nat} (i : Nat) (hS : St B w0 w L) (hel : Elem P t z sz bytes)
    (hd : o.dst = none) (hg : o.guard = none) (ho : o.op = .store t x y) (hx : evO e x = some (.pointer (some ⟨g, 0, none⟩))) (hy : evO e y = some (.agg ⟨vs⟩)) (hi : L[i]? = some (.blk g bt cs)) (hl : vs.length = sz) (hc : cs.length = sz) (h1 : allOne vs = true)
    (h : ∀ w', St B w0 w' (L.set i (.blk g bt vs)) → GL P N ops e rest Q w') : GL P N ops e (o :: rest) Q w := by
  have hb := hS.at hi
  refine gl_act (w' := w.setRow g ⟨vs⟩) hd hg (fun a ha => ?_) (h _ (hS.update hi rfl rfl rfl (by simp) (fun b _ hf => setRow_other w g b _ hf) ⟨hb.1, setRow_heap w g _ _ _ _ hb.2⟩ (fun b hb => .inl hb)))
  have hst := run_storeCells_at (P := P) g 0 bt vs 0 ⟨cs⟩ w hb.2 (by simp [hl, hc]) (fun v hv => oneCell'_of (allOne_mem h1 v hv))
  have e1 : (⟨g, 0, none⟩ : Addr).add 0 = ⟨g, 0, none⟩ := by simp [Addr.add]
  have hst2 : (storeCells ⟨g, 0, none⟩ vs).run P w = .ok () (w.setRow g ⟨vs⟩) := by
    have e3 : ((⟨cs⟩ : Array Value).toList.take (0 + 0) ++ vs ++ (⟨cs⟩ : Array Value).toList.drop (0 + 0 + vs.length)).toArray = ⟨vs⟩ := by simp [hl, hc]
    rw [e3] at hst
    exact hst
  simp only [execOp, ho, ha.eval hx, ha.eval hy, Instr.storeAt, Instr.sureAddr, storeVar, Sem.run_bind, Sem.run_pure, Result.andThen_ok, pure_bind, Value.cells, hel.run_size w, List.size_toArray, hl, ne_eq, not_true_eq_false, if_false, hst2]
/-- &a[i] of an array in a block known whole. -/
theorem gl_ixB {ops : Array Oper} {o : Oper} {rest : List Oper} {d : Nat} {t : TypeId} {x y : Operand} {el bt : TypeId} {k : IntKind} {m : Int} {n g : Nat} {cs : List Value} (i : Nat) (zv : Value)
    (hT : TabOk P T) (hS : St B w0 w L) (hd : o.dst = some d) (hg : o.guard = none) (hN : Nat.ble (d + 1) N = true) (ho : o.op = .indexAddr t x y) (ht : tlook T t = some (.array n el))
    (hsz : P.cellsOf el = 1) (hsome : (P.info? el).isSome = true) (hx : evO e x = some (.pointer (some ⟨g, 0, none⟩))) (hy : evO e y = some (.int k m)) (hi : L[i]? = some (.blk g bt cs)) (h0 : 0 ≤ m) (h1 : m < n) (h2 : n = cs.length)
    (h : w.cell? ⟨g, m.toNat, none⟩ = some (cs.getD m.toNat zv) → GL P N ops ((d, .pointer (some ⟨g, m.toNat, none⟩)) :: e) rest Q w) : GL P N ops e (o :: rest) Q w := by
  have hlt : m.toNat < cs.length := by omega
  have hc : w.cell? ⟨g, m.toNat, none⟩ = some (cs.getD m.toNat zv) := by
    rw [hS.cell hi]; simp [List.getD_eq_getElem?_getD, hlt]
  refine gl_step hd (Nat.le_of_ble_eq_true hN) hg (fun a ha => ?_) (h hc)
  have hs : (sizeOf el).run P w = .ok 1 w := by
    obtain ⟨inf, hinf⟩ := Option.isSome_iff_exists.1 hsome
    have : inf.size = 1 := by rw [← hsz]; simp [Program.cellsOf, hinf]
    simp [sizeOf, typeInfo, hinf, this]
  have ea : (⟨g, 0, none⟩ : Addr).add m.toNat = ⟨g, m.toNat, none⟩ := by
    unfold Addr.add; split <;> simp_all
  simp only [execOp, ho, ha.eval hx, ha.eval hy, Instr.indexAt, asIntOf, Instr.sureAddr]
  simp only [Sem.run_bind, Sem.run_pure, Result.andThen_ok, run_underlying (hT.at ht), pure_bind]
  by_cases hn1 : n ≤ 1
  · simp [hn1, h0, h1, hs, ea, run_underlying (hT.at ht)]
  · simp [hn1, h0, h1, hs, ea, run_underlying (hT.at ht)]
end
end Go.Proofs.YtpeomdobcobdiaaDoor
