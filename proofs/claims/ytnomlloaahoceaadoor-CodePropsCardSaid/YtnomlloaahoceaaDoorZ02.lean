/- Contracts of functions that CodeProps reaches, and words to say them. No condition. -/
import Derived.Test.YtnomlloaahoceaaDoorZ01
import Derived.Lib.AppendZeros
import Derived.Lib.OthersKept
import Derived.Laws.CopyRow
import Derived.Laws.BytesString
import Derived.Deep.AppendSrc
import Derived.Laws.Externs
import Derived.Laws.OwnMore
import Derived.Laws.Cover3
import Derived.Orders
import Derived.Lib.AppendZerosOnto
import Derived.OrdersHeld
/- Our own words: arrays and structs that are built, stored and indexed; texts that are made and ranged over; room asked for. Nothing here speaks of a statement; no condition. -/
namespace Go.Proofs.YtnomlloaahoceaaDoor
open Go.RowKit
set_option linter.unusedVariables false
set_option linter.unusedSimpArgs false
section
variable {P : Program} {N : Nt} {e : Env} {Q : Exit → Act → World → Prop} {w w0 w' : World} {T : TyTab} {B : Nat} {L : List It}
/-! ### texts -/
def strB (l : List UInt8) : ByteArray := ⟨l.toArray⟩
theorem strB_inj {a b : List UInt8} (h : strB a = strB b) : a = b := by
  have := congrArg (fun s => s.data.toList) h
  simpa [strB] using this
theorem foldl_push (l : List UInt8) : ∀ s : ByteArray, (l.map fun b => (b.toNat : Int)).foldl (fun r n => r.push (UInt8.ofNat n.toNat)) s = ⟨s.data ++ l.toArray⟩ := by
  induction l with
  | nil => intro s; cases s; simp
  | cons x l ih =>
    intro s
    simp only [List.map_cons, List.foldl_cons, ih]
    cases s
    simp [ByteArray.push]
theorem op_b2s {o : Oper} {s d u8 : TypeId} {x : Operand} {A : Option Addr} {n c : Nat} {l : List UInt8} {ok : Nat → Prop} (hT : TabOk P T) (hr : RdE w ok uB A l) (ho : o.op = .convert s d x) (hs : tlook T s = some (.slice u8))
    (hu0 : tlook T u8 = some (.int .u8)) (hd : tlook T d = some .string) (hx : evO e x = some (.slice A n c)) (hn : n = l.length) : OpR P N e w o (.string (strB l)) := by
  subst hn
  have hu := hT.at hu0
  intro q a ha
  have hc := run_convert_bytes_string (P := P) (World.dr w q) s d u8 A l.length c (hT.at hs) hu (hT.at hd)
  have hv : (Conv.bytesToString (.slice A l.length c)).run P (World.dr w q) = .ok (.string (strB l)) (World.dr w q) := by
    cases A with
    | none =>
      have hl : l.length = 0 := by
        rcases Nat.eq_zero_or_pos l.length with h | h
        · exact h
        · obtain ⟨ad, h1, _⟩ := hr.2 h; cases h1
      have : l = [] := List.eq_nil_of_length_eq_zero hl
      subst this
      rfl
    | some ad =>
      have hl := run_loadCells_list (P := P) (World.dr w q) ad (l.map uB) (fun j v hj => by
        have hpos : 0 < l.length := by
          have := (List.getElem?_eq_some_iff.1 hj).1; simp at this; omega
        obtain ⟨ad', h1, _, h2⟩ := hr.2 hpos
        injection h1 with h1; subst h1
        exact (h2 j v hj : w.cell? (ad.add j) = some v))
      have e1 : l.map uB = (l.map fun b => (b.toNat : Int)).map (Value.int .u8) := by simp [uB]
      rw [e1] at hl
      have hl2 : (loadCells ad l.length).run P (World.dr w q) = .ok ((l.map fun b => (b.toNat : Int)).map (Value.int .u8)).toArray (World.dr w q) := by
        have := hl; simp only [List.length_map] at this; exact this
      rw [run_bytesToString (World.dr w q) ad l.length c _ hl2, foldl_push]
      simp [strB]
  simp only [execOp, ho, ha.eval hx, Sem.run_bind, hc, hv, Result.andThen_ok, Sem.run_pure]
/-! ### room -/
/-! ### arrays -/
theorem op_buildA {o : Oper} {t el : TypeId} {k : Nat} {ps : List (Nat × Operand)} {vs : List Value} {z z1 : Value} {sz bytes b1 : Nat} (hT : TabOk P T) (ho : o.op = .build t ⟨ps⟩) (ht : tlook T t = some (.array k el)) (hel : Elem P t z sz bytes) (he1 : Elem P el z1 1 b1)
    (hv : evParts e 0 ps = some vs) (hk : vs.length = sz) (h1 : allOne vs = true) : OpR P N e w o (.agg ⟨vs⟩) := by
  intro q a ha
  obtain ⟨i, hi, hz, _, _⟩ := hel.ex
  have hzv : (zeroValue t).run P (World.dr w q) = .ok z (World.dr w q) := by simp [zeroValue, typeInfo, hi, hz]
  have hf := fill_ones ha ps 0 vs [] z.cells.toList hv rfl (by rw [Array.length_toList, hel.zs, hk]) (allOne_mem h1)
  simp only [List.nil_append] at hf
  have hpm : (Array.map (fun (x : Nat × Operand) => (x.1, a.eval x.2)) ⟨ps⟩).toList = ps.map fun (i, x) => (i, a.eval x) := by simp
  have hza : z.cells = ⟨z.cells.toList⟩ := by simp
  rw [← hza] at hf
  simp only [execOp, ho, Instr.build, Sem.run_bind, hzv, Result.andThen_ok, run_underlying (hT.at ht), he1.run_size (World.dr w q), hpm, hf, Sem.run_pure]
theorem gl_storeA {ops : Array Oper} {o : Oper} {rest : List Oper} {t bt : TypeId} {x y : Operand} {g : Nat} {vs cs : List Value} {z : Value} {sz bytes : Nat} (i : Nat) (hS : St B w0 w L) (hel : Elem P t z sz bytes)
    (hd : o.dst = none) (hg : o.guard = none) (ho : o.op = .store t x y) (hx : evO e x = some (.pointer (some ⟨g, 0, none⟩))) (hy : evO e y = some (.agg ⟨vs⟩)) (hi : L[i]? = some (.blk g bt cs)) (hl : vs.length = sz) (hc : cs.length = sz) (h1 : allOne vs = true)
    (h : ∀ w', St B w0 w' (L.set i (.blk g bt vs)) → GL P N ops e rest Q w') : GL P N ops e (o :: rest) Q w := by
  have hb := hS.at hi
  refine gl_act (w' := w.setRow g ⟨vs⟩) hd hg (fun a ha => ?_) (h _ (hS.update hi rfl rfl rfl (by simp) (fun b _ hf => setRow_other w g b _ hf) ⟨hb.1, setRow_heap w g _ _ _ _ hb.2⟩ (fun b hb => .inl hb)))
  have hst := run_storeCells_at (P := P) g 0 bt vs 0 ⟨cs⟩ w hb.2 (by simp [hl, hc]) (fun v hv => oneCell'_of (allOne_mem h1 v hv))
  have e1 : (⟨g, 0, none⟩ : Addr).add 0 = ⟨g, 0, none⟩ := by simp [Addr.add]
  have hst2 : (storeCells ⟨g, 0, none⟩ vs).run P w = .ok () (w.setRow g ⟨vs⟩) := by
    have e3 : ((⟨cs⟩ : Array Value).toList.take (0 + 0) ++ vs ++ (⟨cs⟩ : Array Value).toList.drop (0 + 0 + vs.length)).toArray = ⟨vs⟩ := by simp [hl, hc]
    rw [e3] at hst
    exact hst
  simp only [execOp, ho, ha.eval hx, ha.eval hy, Instr.storeAt, Instr.sureAddr, storeVar, Sem.run_bind, Sem.run_pure, Result.andThen_ok, pure_bind, Value.cells, hel.run_size w, List.size_toArray, hl, ne_eq, not_true_eq_false, if_false, hst2]
theorem gl_ixB {ops : Array Oper} {o : Oper} {rest : List Oper} {d : Nat} {t : TypeId} {x y : Operand} {el bt : TypeId} {k : IntKind} {m : Int} {n g : Nat} {cs : List Value} (i : Nat) (zv : Value)
    (hT : TabOk P T) (hS : St B w0 w L) (hd : o.dst = some d) (hg : o.guard = none) (hN : Nat.ble (d + 1) N = true) (ho : o.op = .indexAddr t x y) (ht : tlook T t = some (.array n el))
    (hsz : P.cellsOf el = 1) (hsome : (P.info? el).isSome = true) (hx : evO e x = some (.pointer (some ⟨g, 0, none⟩))) (hy : evO e y = some (.int k m)) (hi : L[i]? = some (.blk g bt cs)) (h0 : 0 ≤ m) (h1 : m < n) (h2 : n = cs.length)
    (h : w.cell? ⟨g, m.toNat, none⟩ = some (cs.getD m.toNat zv) → GL P N ops ((d, .pointer (some ⟨g, m.toNat, none⟩)) :: e) rest Q w) : GL P N ops e (o :: rest) Q w := by
  have hlt : m.toNat < cs.length := by omega
  have hc : w.cell? ⟨g, m.toNat, none⟩ = some (cs.getD m.toNat zv) := by
    rw [hS.cell hi]; simp [List.getD_eq_getElem?_getD, hlt]
  refine gl_step hd (Nat.le_of_ble_eq_true hN) hg (fun a ha => ?_) (h hc)
  have hs : (sizeOf el).run P w = .ok 1 w := by
    obtain ⟨inf, hinf⟩ := Option.isSome_iff_exists.1 hsome
    have : inf.size = 1 := by rw [← hsz]; simp [Program.cellsOf, hinf]
    simp [sizeOf, typeInfo, hinf, this]
  have ea : (⟨g, 0, none⟩ : Addr).add m.toNat = ⟨g, m.toNat, none⟩ := by
    unfold Addr.add; split <;> simp_all
  simp only [execOp, ho, ha.eval hx, ha.eval hy, Instr.indexAt, asIntOf, Instr.sureAddr]
  simp only [Sem.run_bind, Sem.run_pure, Result.andThen_ok, run_underlying (hT.at ht), pure_bind]
  by_cases hn1 : n ≤ 1
  · simp [hn1, h0, h1, hs, ea, run_underlying (hT.at ht)]
  · simp [hn1, h0, h1, hs, ea, run_underlying (hT.at ht)]
end
end Go.Proofs.YtnomlloaahoceaaDoor


/- Our own words: more operations. Nothing here speaks of a statement; no condition. -/
namespace Go.Proofs.YtnomlloaahoceaaDoor
open Go.RowKit
set_option linter.unusedVariables false
set_option linter.unusedSimpArgs false
section
variable {P : Program} {N : Nt} {e : Env} {Q : Exit → Act → World → Prop} {w w0 w' : World} {T : TyTab} {B : Nat} {L : List It}
theorem gl_mark {ops : Array Oper} {o : Oper} {rest : List Oper} {d : Nat} {t el : TypeId} {x : Operand} {g n c k m : Nat} {cs : List Value} (i : Nat) (hT : TabOk P T) (hS : St B w0 w L) (hd : o.dst = some d) (hg : o.guard = none) (hN : Nat.ble (d + 1) N = true)
    (ho : o.op = .convert t t x) (ht : tlook T t = some (.slice el)) (he : tlook T el = some (.int .u8)) (hx : evO e x = some (.slice (some ⟨g, 0, none⟩) n c)) (hi : L[i]? = some (.row (some ⟨g, 0, none⟩) k el 1 m cs))
    (h : ∀ w' cur fz, cur.toList.take m = cs → St B w0 w' (L.set i (.obj g (.cells cur el fz))) → GL P N ops ((d, .slice (some ⟨g, 0, none⟩) n c) :: e) rest Q w') : GL P N ops e (o :: rest) Q w := by
  have ho2 : Owns w B (some ⟨g, 0, none⟩) k el 1 m cs := hS.at hi
  rcases ho2.2 with ⟨h1, _⟩ | ⟨g', cap, cur, hv, hB, hh, h3, h4, h5, h6, h7⟩
  · cases h1
  · injection hv with hv; injection hv with hv _; subst hv
    have hlt := (Array.getElem?_eq_some_iff.1 hh).1
    refine gl_step (w' := w.freeze ⟨g, cur.size, none⟩ 1) hd (Nat.le_of_ble_eq_true hN) hg (fun a ha => ?_) (h _ cur (cur.size, cur.size + 1) (by rw [Nat.mul_one] at h7; exact h7) (hS.update hi rfl rfl rfl (by simp [World.freeze]) (fun b hb hf => ?_) ?_ ?_))
    · have hsh : w.shape? g = some (el, cur.size) := by simp [World.shape?, hh]
      have hmk : (markStringish ⟨g, 0, none⟩).run P w = .ok () (w.freeze ⟨g, cur.size, none⟩ 1) := by
        simp [markStringish, shape, Sem.run, hsh, freeze]
      have hcv : (convert t t (.slice (some ⟨g, 0, none⟩) n c)).run P w = .ok (.slice (some ⟨g, 0, none⟩) n c) (w.freeze ⟨g, cur.size, none⟩ 1) := by
        simp [convert, run_underlying (hT.at ht), run_underlying (hT.at he), hmk]
      simp only [execOp, ho, ha.eval hx, Sem.run_bind, hcv, Result.andThen_ok, Sem.run_pure]
    · have hne : b ≠ g := fun e => hf ⟨_, rfl, e.symm⟩
      simp [World.freeze, Array.getElem?_modify, Ne.symm hne]
    · refine ⟨hB, ?_⟩
      simp [World.freeze, Array.getElem?_modify, hh]
    · rintro b rfl; exact .inl ⟨_, rfl, rfl⟩
theorem yielded_none {a : Act} {ops : Array Oper} {j t : Nat} (hj : ((ops[j]?).bind (·.dst)) = some t) (ha : Fr N a e) (hl : look e t = some undef) : yielded ops a.tmps j = none := by
  have := ha.get t _ hl
  unfold yielded
  revert hj
  cases h : ops[j]? with
  | none => simp
  | some o =>
    simp only [Option.bind_some]
    intro ho
    simp [ho, this, undef]
theorem gl_none {ops : Array Oper} {o : Oper} {rest : List Oper} {d : Nat} (hd : o.dst = some d) {j t : Nat} {want : Bool} (hg : o.guard = some (j, want))
    (hj : ((ops[j]?).bind (·.dst)) = some t) (hl : look e t = some undef)
    (hN : Nat.ble (d + 1) N = true) (h : GL P N ops ((d, undef) :: e) rest Q w) : GL P N ops e (o :: rest) Q w := by
  intro a ha
  refine wpList_step fun K hK => ?_
  have hw : Region.wanted o (yielded ops a.tmps) = false := by
    simp [Region.wanted, hg, yielded_none hj ha hl]
  rw [if_neg (by rw [hw]; simp), hd]
  exact hK _ _ (h _ (ha.put (Nat.le_of_ble_eq_true hN) undef))
theorem op_quov {o : Oper} {t yt : TypeId} {x y : Operand} {k : IntKind} {a b : Int} (ho : o.op = .binOp .quo t x y yt) (hx : evO e x = some (.int k a)) (hy : evO e y = some (.int k b)) (hb : b ≠ 0) : OpR P N e w o (.int k (k.wrap (a.tdiv b))) := by
  intro q c ha
  simp [execOp, ho, ha.eval hx, ha.eval hy, eqGuard, binOp, Op.intDiv, hb, Sem.run_bind, Sem.run_pure]
theorem RdE.pre {α : Type} {ok : Nat → Prop} {enc : α → Value} {A : Option Addr} {l : List α} (h : RdE w ok enc A l) {k : Nat} (hk : k ≤ l.length) : Rd w ok A k 1 ((l.take k).map enc) := by
  have := h.take k
  unfold RdE at this
  rw [List.length_take, Nat.min_eq_left hk] at this
  exact this
theorem u8_mod (x : Int) : Value.int .u8 (IntKind.u8.wrap x) = uB (UInt8.ofNat (x % 256).toNat) := by
  have h0 : 0 ≤ x % 256 := by omega
  have h1 : x % 256 < 256 := by omega
  rw [IntKind.wrap_u8]
  unfold uB
  rw [UInt8.toNat_ofNat']
  congr 1
  omega
/-! ### append(b, text...) -/
end
end Go.Proofs.YtnomlloaahoceaaDoor


/- Our own words: what the model itself answers, slices that are made, elements that are written. Nothing here speaks of a statement; no condition. -/
namespace Go.Proofs.YtnomlloaahoceaaDoor
open Go.RowKit
set_option linter.unusedVariables false
set_option linter.unusedSimpArgs false
section
variable {P : Program} {N : Nt} {e : Env} {Q : Exit → Act → World → Prop} {w w0 w' : World} {T : TyTab} {B : Nat} {L : List It}
theorem op_extern {o : Oper} {f : FuncId} {xs : List Operand} {ts : Array TypeId} {vs : List Value} {fn : Func} {ext : Array Value → Sem Value} {v : Value} (ho : o.op = .call { callee := .value (.func f), args := ⟨xs⟩, argTypes := ts })
    (hf : P.funcs[f]? = some fn) (hname : (fn.name == "runtime.NumGoroutine") = false) (hb : fn.body.isNone = true) (hn : Extern.findNext fn = none) (he : Extern.find fn = some ext) (hx : evArgs e xs = some vs)
    (hv : ∀ w, (ext ⟨vs⟩).run P w = .ok v w) : OpR P N e w o v := by
  intro q a ha
  have h1 := evArgs_map ha hx
  have h2 := run_callFunc_extern (P := P) hf hname hb hn he ⟨vs⟩ (World.dr w q)
  rw [hv] at h2
  simp only [execOp, ho, resolve, invoke, Deferred.ofValue, Act.eval, Sem.run_bind, Sem.run_pure, Result.andThen_ok, pure_bind]
  simp [h1, h2]
theorem gl_make {ops : Array Oper} {o : Oper} {rest : List Oper} {d : Nat} {t el : TypeId} {x y : Operand} {z : Value} {sz bytes : Nat} {k1 k2 : IntKind} {n : Nat}
    (hT : TabOk P T) (hS : St B w0 w L) (hel : Elem P el z sz bytes) (hd : o.dst = some d) (hg : o.guard = none) (hN : Nat.ble (d + 1) N = true) (ho : o.op = .makeSlice t x y)
    (ht : tlook T t = some (.slice el)) (hx : evO e x = some (.int k1 (n : Int))) (hy : evO e y = some (.int k2 (n : Int))) (hb : n * bytes ≤ 281474976710656) (hmax : n ≤ 9223372036854775807)
    (h : ∀ g w', St B w0 w' (L ++ [.row (some ⟨g, 0, none⟩) n el sz n (madeCells z.cells (n * sz)).toList]) → GL P N ops ((d, .slice (some ⟨g, 0, none⟩) n n) :: e) rest Q w') : GL P N ops e (o :: rest) Q w := by
  obtain ⟨i, hi, hz, hsz, hb'⟩ := hel.ex
  have hbi : (i.bytes : Int) * (n : Int) ≤ 281474976710656 := by
    have h : ((i.bytes * n : Nat) : Int) ≤ 281474976710656 := by rw [Nat.mul_comm, hb']; omega
    rwa [Int.natCast_mul] at h
  have hrun := run_make (P := P) w t el i z (hT.at ht) hi hz k1 k2 n n (by omega) (Int.le_refl _) hbi (by omega)
  simp only [Int.toNat_natCast] at hrun
  have hsc : (madeCells z.cells (n * i.size)).size = n * i.size := size_madeCells _ _
  refine gl_step hd (Nat.le_of_ble_eq_true hN) hg (fun a ha => ?_) (h w.heap.size (w.alloc (.cells (madeCells z.cells (n * i.size)) el)) (hS.add rfl rfl rfl (by simp) (fun b hb => Below.heap_alloc w _ b hb) ?_ ?_))
  · simp only [execOp, ho, ha.eval hx, ha.eval hy, Sem.run_bind, hrun, Result.andThen_ok, Sem.run_pure]
  · rw [hsz] at hsc ⊢
    refine ⟨by rw [Array.length_toList, hsc], .inr ⟨w.heap.size, n, _, rfl, hS.size, heap_alloc_new w _, Nat.le_refl _, Nat.le_refl _, by simp only [maxLen]; omega, hsc, ?_⟩⟩
    rw [List.take_of_length_le (by rw [Array.length_toList, hsc]; exact Nat.le_refl _)]
  · rintro b ⟨a, h, rfl⟩; injection h with h; rw [← h]; exact Nat.le_refl _
theorem gl_ixR {ops : Array Oper} {o : Oper} {rest : List Oper} {d : Nat} {t : TypeId} {x y : Operand} {el bt : TypeId} {A : Option Addr} {c n nv cv : Nat} {k : IntKind} {m : Int} {xs : List Value} (i : Nat)
    (hT : TabOk P T) (hS : St B w0 w L) (hd : o.dst = some d) (hg : o.guard = none) (hN : Nat.ble (d + 1) N = true) (ho : o.op = .indexAddr t x y) (ht : tlook T t = some (.slice el))
    (hsz : P.cellsOf el = 1) (hsome : (P.info? el).isSome = true) (hx : evO e x = some (.slice A nv cv)) (hy : evO e y = some (.int k m)) (hi : L[i]? = some (.row A c bt 1 n xs)) (h0 : 0 ≤ m) (h1 : m < nv) (h2 : nv ≤ n)
    (h : ∀ g, A = some ⟨g, 0, none⟩ → GL P N ops ((d, .pointer (some ⟨g, m.toNat, none⟩)) :: e) rest Q w) : GL P N ops e (o :: rest) Q w := by
  have hown : Owns w B A c bt 1 n xs := hS.at hi
  rcases hown.2 with ⟨_, _, h3⟩ | ⟨g, cap, cur, hA, _⟩
  · omega
  · have e1 : (⟨g, 0, none⟩ : Addr).add (m.toNat * 1) = ⟨g, m.toNat, none⟩ := by unfold Addr.add; split <;> simp_all
    have hop := op_indexAddr (N := N) (w := w) hT ho ht hsz hsome hx hy h0 h1 hA
    rw [e1] at hop
    exact gl_op hd hg hN hop (h g hA)
theorem St.storedR (hS : St B w0 w L) {i g c n : Nat} {el : TypeId} {xs : List Value} (hi : L[i]? = some (.row (some ⟨g, 0, none⟩) c el 1 n xs)) (j : Nat) (hj : j < n) (v : Value) : St B w0 (w.setCell ⟨g, j, none⟩ v) (L.set i (.row (some ⟨g, 0, none⟩) c el 1 n (xs.set j v))) := by
  have ho : Owns w B (some ⟨g, 0, none⟩) c el 1 n xs := hS.at hi
  refine hS.update hi rfl rfl rfl (by simp [World.setCell]) (fun b _ hf => Below.heap_setCell w _ _ b (fun h => hf ⟨_, rfl, h.symm⟩)) (?_ : Owns _ B (some ⟨g, 0, none⟩) c el 1 n (xs.set j v)) (fun b hb => .inl hb)
  rcases ho.2 with ⟨h1, _⟩ | ⟨g', cap, cur, hA, hB, hh, h3, h4, h5, h6, h7⟩
  · cases h1
  · injection hA with hA; injection hA with hA _; subst hA
    refine ⟨by rw [List.length_set]; exact ho.1, .inr ⟨g, cap, cur.setIfInBounds j v, rfl, hB, ?_, h3, h4, h5, by simpa using h6, ?_⟩⟩
    · simp [World.setCell, Array.getElem?_modify, hh]
    · rw [Nat.mul_one] at h7 ⊢
      rw [← h7, Array.toList_setIfInBounds, List.take_set]
theorem gl_storeR {ops : Array Oper} {o : Oper} {rest : List Oper} {el bt : TypeId} {x y : Operand} {g j c n : Nat} {v : Value} {xs : List Value} (i : Nat) (hS : St B w0 w L) (hsz : P.cellsOf el = 1) (hsome : (P.info? el).isSome = true)
    (hd : o.dst = none) (hg : o.guard = none) (ho : o.op = .store el x y) (hx : evO e x = some (.pointer (some ⟨g, j, none⟩))) (hy : evO e y = some v) (hi : L[i]? = some (.row (some ⟨g, 0, none⟩) c bt 1 n xs)) (hj : j < n) (hv : oneCells v = true)
    (h : ∀ w', St B w0 w' (L.set i (.row (some ⟨g, 0, none⟩) c bt 1 n (xs.set j v))) → GL P N ops e rest Q w') : GL P N ops e (o :: rest) Q w := by
  have hown : Owns w B (some ⟨g, 0, none⟩) c bt 1 n xs := hS.at hi
  refine gl_act (w' := w.setCell ⟨g, j, none⟩ v) hd hg (fun a ha => ?_) (h _ (hS.storedR hi j hj v))
  obtain ⟨cap, cur, hh, hcs⟩ : ∃ cap cur, w.heap[g]? = some (.cells cur bt (0, 0)) ∧ j < cur.size := by
    rcases hown.2 with ⟨h1, _⟩ | ⟨g', cap, cur, hA, _, hh, h3, h4, h5, h6, _⟩
    · cases h1
    · injection hA with hA; injection hA with hA _; subst hA
      exact ⟨cap, cur, hh, by omega⟩
  have hh' : w.heap[g]? = some (.cells ⟨cur.toList⟩ bt (0, 0)) := by simpa using hh
  have h1 := run_storeVar1 (P := P) hsz hsome hh' (by simpa using hcs) hv
  simp only [execOp, ho, ha.eval hx, ha.eval hy, Instr.storeAt, Instr.sureAddr, Sem.run_bind, Sem.run_pure, Result.andThen_ok, pure_bind, h1]
end
end Go.Proofs.YtnomlloaahoceaaDoor


/- Our own words: regions that draw their order and whose operations make memory: each operation's outcome told by itself, whatever order is drawn. Nothing here speaks of a statement; no condition. -/
namespace Go.Proofs.YtnomlloaahoceaaDoor
open Go.RowKit
set_option linter.unusedVariables false
set_option linter.unusedSimpArgs false
section
variable {P : Program} {N : Nt} {Q : Exit → Act → World → Prop}
inductive Inf where
  | det (v : Value)
  | nd (G : Value → World → Prop)
def Inf.holds : Inf → Value → World → Prop
  | .det v, u, _ => u = v
  | .nd G, u, w => G u w
def Stays (G : Value → World → Prop) : Prop := ∀ u w w', Below w.heap.size w w' → G u w → G u w'
def Inf.stays : Inf → Prop
  | .det _ => True
  | .nd G => Stays G
theorem Inf.keep {x : Inf} (h : x.stays) {u : Value} {w w' : World} (hb : Below w.heap.size w w') (hx : x.holds u w) : x.holds u w' := by
  cases x with
  | det v => exact hx
  | nd G => exact h u w w' hb hx
abbrev Infs := List (Nat × Inf)
def infOf : Infs → Nat → Option Inf
  | [], _ => none
  | (k, x) :: r, t => bif Nat.beq k t then some x else infOf r t
/-! ### one operation at a time -/
def depEnv (D : Infs) : List Nat → Env
  | [] => []
  | t :: r => match infOf D t with
    | some (.det v) => (t, v) :: depEnv D r
    | _ => depEnv D r
theorem Fr.with {a : Act} {e0 : Env} (h : Fr N a e0) {D : Infs} {w1 : World} : ∀ {ts : List Nat}, (∀ t ∈ ts, ∀ y, infOf D t = some y → ∃ u, a.tmps[t]? = some u ∧ y.holds u w1) → Fr N a (depEnv D ts ++ e0) := by
  intro ts
  induction ts with
  | nil => intro _; exact h
  | cons t r ih =>
    intro hh
    have h2 := ih fun t' ht' => hh t' (List.mem_cons_of_mem _ ht')
    unfold depEnv
    split
    · rename_i v hv
      obtain ⟨u, hu, hx⟩ := hh t List.mem_cons_self _ hv
      have : u = v := hx
      subst this
      refine ⟨h2.defers, h2.size, fun t' x hx => ?_⟩
      rcases look_cons hx with ⟨rfl, rfl⟩ | ⟨_, hx⟩
      · exact hu
      · exact h2.get t' x hx
    · exact h2
variable {w : World} {e0 : Env} {ops : Array Oper}
theorem Rd.grown {w w' : World} {ok : Nat → Prop} {A : Option Addr} {n sz : Nat} {cs : List Value} (hr : Rd w ok A n sz cs) (hb : Below w.heap.size w w') : Rd w' ok A n sz cs := by
  refine ⟨hr.1, fun hn => ?_⟩
  obtain ⟨ad, hA, ho, hc⟩ := hr.2 hn
  refine ⟨ad, hA, ho, fun j u hu => ?_⟩
  have hlt : (ad.add j).block < w.heap.size := World.block_lt_of_cell? w _ (hc j u hu)
  rw [hb.cell hlt]
  exact hc j u hu
theorem RdE.grown {α : Type} {w w' : World} {ok : Nat → Prop} {enc : α → Value} {A : Option Addr} {l : List α} (hr : RdE w ok enc A l) (hb : Below w.heap.size w w') : RdE w' ok enc A l := Rd.grown hr hb
theorem op_fit {e : Env} {o : Oper} {T : TyTab} {n : Int} (hT : TabOk P T) (hv : pureOp T e o.op = some (.int .i64 (IntKind.i64.wrap n))) (hb : -9223372036854775808 ≤ n ∧ n ≤ 9223372036854775807) : OpR P N e w o (.int .i64 n) :=
  op_pure hT (hv.trans (by rw [wrap_i64 hb]))
theorem cellOf {w w1 : World} (hb : Below w.heap.size w w1) {p : Addr} {v : Value} (h : w.cell? p = some v) : w1.cell? p = some v := by
  rw [hb.cell (World.block_lt_of_cell? w _ h)]; exact h
end
end Go.Proofs.YtnomlloaahoceaaDoor


/- Our own words: many pieces of memory that stay as they are. Nothing here speaks of a statement; no condition. -/
namespace Go.Proofs.YtnomlloaahoceaaDoor
open Go.RowKit
set_option linter.unusedVariables false
set_option linter.unusedSimpArgs false
section
variable {B : Nat} {w0 w w1 : World} {L : List It}
theorem St.keep0 (h : St B w0 w L) : St B w0 w (L ++ [.keep (fun _ => False) w]) :=
  h.add rfl rfl rfl (Nat.le_refl _) (fun _ _ => rfl) (fun _ hb => hb.elim) (fun _ hb => hb.elim)
theorem Rd.weaken {ok ok' : Nat → Prop} {A : Option Addr} {n sz : Nat} {cs : List Value} (h : Rd w ok A n sz cs) (hok : ∀ b, ok b → ok' b) : Rd w ok' A n sz cs :=
  ⟨h.1, fun hn => let ⟨a, h1, h2, h3⟩ := h.2 hn; ⟨a, h1, hok _ h2, h3⟩⟩
theorem St.keepRd (h : St B w0 w L) {i : Nat} {ok : Nat → Prop} {wk : World} (hi : L[i]? = some (.keep ok wk)) {A : Option Addr} {n sz : Nat} {cs : List Value} (hr : Rd wk ok A n sz cs) : Rd w ok A n sz cs := by
  have hk := h.at hi
  refine ⟨hr.1, fun hn => ?_⟩
  obtain ⟨ad, hA, ho, hc⟩ := hr.2 hn
  refine ⟨ad, hA, ho, fun j u hu => ?_⟩
  have hb : (ad.add j).block = ad.block := by unfold Addr.add; split <;> rfl
  have := hc j u hu
  unfold World.cell? at this ⊢
  rw [hb] at this ⊢
  rw [(hk ad.block ho).2.2.2]
  exact this
theorem Owns.rdFp {A : Option Addr} {c : Nat} {el : TypeId} {sz m : Nat} {cs : List Value} (ho : Owns w B A c el sz m cs) : Rd w (It.fp (.row A c el sz m cs)) A m sz cs := by
  refine ⟨ho.1, fun hm => ?_⟩
  rcases ho.2 with ⟨h1, h2, h3⟩ | ⟨g, cap, cur, hv, hg, hh, r⟩
  · omega
  · exact ⟨_, hv, ⟨_, hv, rfl⟩, ho.cells hv⟩
end
end Go.Proofs.YtnomlloaahoceaaDoor


/- Our own words: copy, and room asked for behind what there is. Nothing here speaks of a statement; no condition. -/
namespace Go.Proofs.YtnomlloaahoceaaDoor
open Go.RowKit
set_option linter.unusedVariables false
set_option linter.unusedSimpArgs false
section
variable {P : Program} {N : Nt} {e : Env} {Q : Exit → Act → World → Prop} {w w0 w' : World} {T : TyTab} {B : Nat} {L : List It}
theorem op_fieldAddr {o : Oper} {s : TypeId} {x : Operand} {k : Nat} {fields : Array Field} {f : Field} {ad : Addr} {z : Value} {sz bytes : Nat} (ho : o.op = .fieldAddr s x k) (hs : P.underlying s = some (.struct fields)) (hf : fields[k]? = some f) (hel : Elem P f.type z sz bytes) (hsz : 0 < sz)
    (hx : evO e x = some (.pointer (some ad))) : OpR P N e w o (.pointer (some (ad.add f.offset))) := by
  intro q a ha
  have h1 := hel.run_size (World.dr w q)
  have hne : ¬ sz = 0 := by omega
  simp [execOp, ho, ha.eval hx, Instr.fieldAt, Instr.sureAddr, fieldPlace, run_underlying hs, hf, h1, hne, Sem.run_bind, Sem.run_pure]
end
end Go.Proofs.YtnomlloaahoceaaDoor


/- Our own words: regions that draw their order, walked with what only looks taken first. Nothing here speaks of a statement; no condition. -/
namespace Go.Proofs.YtnomlloaahoceaaDoor
open Go.RowKit
set_option linter.unusedVariables false
set_option linter.unusedSimpArgs false
section
variable {P : Program} {N : Nt} {e : Env} {Q : Exit → Act → World → Prop} {w w0 w' : World} {T : TyTab} {B : Nat} {L : List It} {ops : Array Oper} {S : World → Prop} {fuel : Nat} {listed : Array Bool}
def GA (P : Program) (N : Nt) (ops : Array Oper) (S : World → Prop) (e : Env) (fuel : Nat) (listed : Array Bool) (Q : Exit → Act → World → Prop) (w : World) : Prop := ∀ a, Fr N a e → wpAnyH P .any ops Q S fuel listed a w
def nxt (P : Program) (ops : Array Oper) (S : World → Prop) (fuel : Nat) (listed : Array Bool) (Q : Exit → Act → World → Prop) : Act → World → Prop := fun a' w' => S w' ∧ wpAnyH P .any ops Q S fuel listed a' w'
theorem gc_any {i n : Nat} (S : World → Prop) (hm : P.follows .mixedOrders = true) (hn : ops.size = n) (h : ∀ d, GA P N ops S e n (Array.replicate n false) Q (World.dr w d)) : GC P N e (.region i ops true) Q w := by
  intro a ha
  refine wp_region_held (S := S) hm ?_
  rw [hn]
  exact h (w.drawn + 1) a ha
theorem gc_anyS {i n : Nat} (hS : St B w0 w L) (hm : P.follows .mixedOrders = true) (hn : ops.size = n) (h : ∀ d, St B w0 (World.dr w d) L → GA P N ops (fun w1 => St B w0 w1 L) e n (Array.replicate n false) Q (World.dr w d)) : GC P N e (.region i ops true) Q w :=
  gc_any _ hm hn fun d => h d (hS.dr d)
def takeB (ops : Array Oper) (listed : Array Bool) (i : Nat) : Bool := Region.noSelect ops && Region.free .any ops listed i && (Region.ready .any ops listed).contains i
abbrev PanOk (Q : Exit → Act → World → Prop) (d : Nat) : Prop := ∀ c a w v, Q (.panic c) (a.put (some d) v) w → Q (.panic c) a w
theorem ga_take (i : Nat) {o : Oper} {d : Nat} {v : Value} (hi : ops[i]? = some o) (hd : o.dst = some d) (hg : o.guard = none) (hN : Nat.ble (d + 1) N = true) (hok : takeB ops listed i = true) (hQ : PanOk Q d) (hS : S w)
    (hr : ∀ w', S w' → OpR P N e w' o v) (h : GA P N ops S ((d, v) :: e) fuel (listed.setIfInBounds i true) Q w) : GA P N ops S e (fuel + 1) listed Q w := by
  intro a ha
  unfold takeB at hok
  simp only [Bool.and_eq_true] at hok
  refine wpAnyH_take hi hok.1.1 hok.1.2 hok.2 (fun c a w hq => ?_) (.inl ⟨by simp [Region.wanted, hg], fun w' hw' => hr w' hw' w'.drawn a ha⟩) hS (v := v) ?_
  · rw [hd] at hq; exact hQ c a w v hq
  · rw [hd]; exact h _ (ha.put (Nat.le_of_ble_eq_true hN) v)
theorem ga_take_at (i : Nat) {o : Oper} {d : Nat} {v : Value} {j t : Nat} {want b : Bool} (hi : ops[i]? = some o) (hd : o.dst = some d) (hg : o.guard = some (j, want)) (hj : ((ops[j]?).bind (·.dst)) = some t) (hl : look e t = some (.bool b)) (hwant : b = want)
    (hN : Nat.ble (d + 1) N = true) (hok : takeB ops listed i = true) (hQ : PanOk Q d) (hS : S w)
    (hr : ∀ w', S w' → OpR P N e w' o v) (h : GA P N ops S ((d, v) :: e) fuel (listed.setIfInBounds i true) Q w) : GA P N ops S e (fuel + 1) listed Q w := by
  intro a ha
  unfold takeB at hok
  simp only [Bool.and_eq_true] at hok
  refine wpAnyH_take hi hok.1.1 hok.1.2 hok.2 (fun c a w hq => ?_) (.inl ⟨by simp [Region.wanted, hg, yielded_of hj ha hl, hwant], fun w' hw' => hr w' hw' w'.drawn a ha⟩) hS (v := v) ?_
  · rw [hd] at hq; exact hQ c a w v hq
  · rw [hd]; exact h _ (ha.put (Nat.le_of_ble_eq_true hN) v)
theorem ga_pass (i : Nat) {o : Oper} {d : Nat} {j t : Nat} {want b : Bool} (hi : ops[i]? = some o) (hd : o.dst = some d) (hg : o.guard = some (j, want)) (hj : ((ops[j]?).bind (·.dst)) = some t) (hl : look e t = some (.bool b)) (hwant : b = !want)
    (hN : Nat.ble (d + 1) N = true) (hok : takeB ops listed i = true) (hQ : PanOk Q d) (hS : S w) (h : GA P N ops S ((d, undef) :: e) fuel (listed.setIfInBounds i true) Q w) : GA P N ops S e (fuel + 1) listed Q w := by
  intro a ha
  unfold takeB at hok
  simp only [Bool.and_eq_true] at hok
  have hw : Region.wanted o (yielded ops a.tmps) = false := by
    subst hwant
    cases want <;> simp [Region.wanted, hg, yielded_of hj ha hl]
  refine wpAnyH_take hi hok.1.1 hok.1.2 hok.2 (fun c a w hq => ?_) (.inr ⟨hw, rfl⟩) hS (v := undef) ?_
  · rw [hd] at hq; exact hQ c a w undef hq
  · rw [hd]; exact h _ (ha.put (Nat.le_of_ble_eq_true hN) undef)
theorem ga_none (i : Nat) {o : Oper} {d : Nat} {j t : Nat} {want : Bool} (hi : ops[i]? = some o) (hd : o.dst = some d) (hg : o.guard = some (j, want)) (hj : ((ops[j]?).bind (·.dst)) = some t) (hl : look e t = some undef)
    (hN : Nat.ble (d + 1) N = true) (hok : takeB ops listed i = true) (hQ : PanOk Q d) (hS : S w) (h : GA P N ops S ((d, undef) :: e) fuel (listed.setIfInBounds i true) Q w) : GA P N ops S e (fuel + 1) listed Q w := by
  intro a ha
  unfold takeB at hok
  simp only [Bool.and_eq_true] at hok
  have hw : Region.wanted o (yielded ops a.tmps) = false := by simp [Region.wanted, hg, yielded_none hj ha hl]
  refine wpAnyH_take hi hok.1.1 hok.1.2 hok.2 (fun c a w hq => ?_) (.inr ⟨hw, rfl⟩) hS (v := undef) ?_
  · rw [hd] at hq; exact hQ c a w undef hq
  · rw [hd]; exact h _ (ha.put (Nat.le_of_ble_eq_true hN) undef)
theorem ga_split {t : Nat} {b : Bool} (hb : look e t = some (.bool b)) (h1 : b = true → GA P N ops S ((t, .bool true) :: e) fuel listed Q w) (h2 : b = false → GA P N ops S ((t, .bool false) :: e) fuel listed Q w) : GA P N ops S e fuel listed Q w := by
  intro a ha
  cases b with
  | true => exact h1 rfl a (ha.spell hb rfl)
  | false => exact h2 rfl a (ha.spell hb rfl)
theorem ga_spell (t : Nat) {u v : Value} (hu : look e t = some u) (huv : u = v) (h : GA P N ops S ((t, v) :: e) fuel listed Q w) : GA P N ops S e fuel listed Q w :=
  fun a ha => h a (ha.spell hu huv)
theorem wpOp_of_list {i : Nat} {o : Oper} {a : Act} {K : Act → World → Prop} (hi : ops[i]? = some o) (h : wpList P ops (Exit.then K Q) [o] a w) : wpOp P ops Q i K a w := by
  unfold wpOp
  rw [hi]
  unfold wpList at h
  split at h
  · rename_i hw
    simp only [hw, if_true]
    rcases h with h | ⟨h1, h2⟩
    · refine .inl ?_
      unfold Oper.wp at h ⊢
      generalize (execOp a.eval o).run P w = r at h ⊢
      cases r with
      | ok n w' =>
        cases n <;> simp only [Oper.upon] at h ⊢ <;>
          first
            | exact h
            | exact Calls.mono h (fun e w'' he => by cases e <;> first | exact he | exact he)
            | exact Rows.mono h (fun _ _ he => he)
      | halt x w' => cases x <;> simp only [Oper.upon] at h ⊢ <;> exact h
    · exact .inr ⟨h1, h2⟩
  · rename_i hw
    simp only [hw]
    exact h
theorem ga_one (i : Nat) {o : Oper} (hr : Region.ready .any ops listed = [i]) (hi : ops[i]? = some o) (h : GL P N ops e [o] (Exit.then (nxt P ops S fuel (listed.setIfInBounds i true) Q) Q) w) : GA P N ops S e (fuel + 1) listed Q w := by
  intro a ha
  refine wpAnyH_all hr (by simp) fun j hj => ?_
  simp only [List.mem_singleton] at hj
  subst hj
  exact wpOp_of_list hi (h a ha)
theorem ga_two (i j : Nat) {o o2 : Oper} (hr : Region.ready .any ops listed = [i, j]) (hi : ops[i]? = some o) (hj : ops[j]? = some o2) (h : GL P N ops e [o] (Exit.then (nxt P ops S fuel (listed.setIfInBounds i true) Q) Q) w)
    (h2 : GL P N ops e [o2] (Exit.then (nxt P ops S fuel (listed.setIfInBounds j true) Q) Q) w) : GA P N ops S e (fuel + 1) listed Q w := by
  intro a ha
  refine wpAnyH_all hr (by simp) fun k hk => ?_
  simp only [List.mem_cons, List.not_mem_nil, or_false] at hk
  rcases hk with rfl | rfl
  · exact wpOp_of_list hi (h a ha)
  · exact wpOp_of_list hj (h2 a ha)
theorem ga_next (hS : S w) (h : S w → GA P N ops S e fuel listed Q w) : GK N e (Exit.then (nxt P ops S fuel listed Q) Q .normal) w := fun a ha => ⟨hS, h hS a ha⟩
theorem ga_done (hr : (Region.ready .any ops listed).isEmpty = true) (h : GK N e (Q .normal) w) : GA P N ops S e fuel listed Q w := fun a ha => wpAnyH_done (by simpa using hr) (h a ha) fuel
def blank (w0 : World) : It := .keep (fun _ => False) w0
theorem St.blank (h : St B w0 w L) (i : Nat) : St B w0 w (L.set i (blank w0)) := by
  rcases Nat.lt_or_ge i L.length with hi | hi
  · have hl : L[i]? = some L[i] := List.getElem?_eq_getElem hi
    exact h.update hl rfl rfl rfl (Nat.le_refl _) (fun _ _ _ => rfl) (fun b hb => hb.elim) (fun b hb => hb.elim)
  · rw [List.set_eq_of_length_le hi]; exact h
theorem St.pre (h : St B w0 w L) (n : Nat) : St B w0 w (L.take n) := h.sub (List.take_sublist n L)
end
end Go.Proofs.YtnomlloaahoceaaDoor

