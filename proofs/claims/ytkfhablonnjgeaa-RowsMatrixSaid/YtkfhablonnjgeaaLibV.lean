/- Our own words: floats, complex numbers, arrays as values. Nothing here speaks of a statement; no condition. -/
import Derived.Test.YtkfhablonnjgeaaLibT
namespace Go.Proofs.Ytkfhablonnjgeaa
open Go.RowKit
set_option linter.unusedVariables false
set_option linter.unusedSimpArgs false
section
variable {P : Program} {N : Nat} {e : Env} {Q : Exit → Act → World → Prop} {w w0 w' : World} {T : TyTab} {B : Nat} {L : List It}
theorem real_eq (ts : Array TypeId) (t : TypeId) (k : FloatKind) (re im : Nat) : Builtin.real_ ts t #[.complex k re im] = pure (.float k re) := rfl
theorem imag_eq (ts : Array TypeId) (t : TypeId) (k : FloatKind) (re im : Nat) : Builtin.imag_ ts t #[.complex k re im] = pure (.float k im) := rfl
theorem complex_eq (ts : Array TypeId) (t : TypeId) (re im : Nat) : Builtin.complex_ ts t #[.float .f64 re, .float .f64 im] = pure (.complex .f64 re im) := rfl
/-- How two floats stand. -/
def fltB (op : BinOp) (a b : Nat) : Option Bool :=
  match op with
  | .eql => some (FloatKind.f64.format.order a b == some .eq)
  | .neq => some (FloatKind.f64.format.order a b != some .eq)
  | .lss => some (FloatKind.f64.format.order a b == some .lt)
  | .leq => some (FloatKind.f64.format.order a b == some .lt || FloatKind.f64.format.order a b == some .eq)
  | .gtr => some (FloatKind.f64.format.order a b == some .gt)
  | .geq => some (FloatKind.f64.format.order a b == some .gt || FloatKind.f64.format.order a b == some .eq)
  | _ => none
theorem op_fcmp {o : Oper} {op : BinOp} {t yt : TypeId} {x y : Operand} {a b : Nat} {v : Bool} (ho : o.op = .binOp op t x y yt) (hx : evO e x = some (.float .f64 a)) (hy : evO e y = some (.float .f64 b)) (hv : fltB op a b = some v) : OpR P N e w o (.bool v) := by
  intro q c ha
  cases op <;> simp only [fltB] at hv <;> first | (cases hv; done) | skip
  all_goals (injection hv with hv; subst hv; simp [execOp, ho, ha.eval hx, ha.eval hy, eqGuard, binOp, Op.floatCmp, Sem.run_bind, Sem.run_pure])
theorem op_farith {o : Oper} {op : BinOp} {t yt : TypeId} {x y : Operand} {a b r : Nat} (ho : o.op = .binOp op t x y yt) (hx : evO e x = some (.float .f64 a)) (hy : evO e y = some (.float .f64 b))
    (hv : (match op with | .add => FloatKind.f64.format.add a b | .sub => FloatKind.f64.format.sub a b | .mul => FloatKind.f64.format.mul a b | .quo => FloatKind.f64.format.div a b | _ => none) = some r) : OpR P N e w o (.float .f64 r) := by
  intro q c ha
  cases op <;> simp only at hv <;> first | (cases hv; done) | skip
  all_goals simp [execOp, ho, ha.eval hx, ha.eval hy, eqGuard, binOp, Op.floatArith, Sem.run_bind, Sem.run_pure, hv]
theorem op_real {o : Oper} {x : Operand} {ts : Array TypeId} {re im : Nat} (ho : o.op = .call { callee := .builtin .real, args := #[x], argTypes := ts }) (hx : evO e x = some (.complex .f64 re im)) : OpR P N e w o (.float .f64 re) := by
  intro q c ha
  simp only [execOp, ho, resolve, invoke, builtin, Sem.run_bind, Sem.run_pure, Result.andThen_ok, List.map_toArray, List.map_cons, List.map_nil, ha.eval hx, real_eq]
theorem op_imag {o : Oper} {x : Operand} {ts : Array TypeId} {re im : Nat} (ho : o.op = .call { callee := .builtin .imag, args := #[x], argTypes := ts }) (hx : evO e x = some (.complex .f64 re im)) : OpR P N e w o (.float .f64 im) := by
  intro q c ha
  simp only [execOp, ho, resolve, invoke, builtin, Sem.run_bind, Sem.run_pure, Result.andThen_ok, List.map_toArray, List.map_cons, List.map_nil, ha.eval hx, imag_eq]
theorem op_complex {o : Oper} {x y : Operand} {ts : Array TypeId} {re im : Nat} (ho : o.op = .call { callee := .builtin .complex, args := #[x, y], argTypes := ts }) (hx : evO e x = some (.float .f64 re)) (hy : evO e y = some (.float .f64 im)) : OpR P N e w o (.complex .f64 re im) := by
  intro q c ha
  simp only [execOp, ho, resolve, invoke, builtin, Sem.run_bind, Sem.run_pure, Result.andThen_ok, List.map_toArray, List.map_cons, List.map_nil, ha.eval hx, ha.eval hy, complex_eq]
theorem op_i2f {o : Oper} {s d : TypeId} {x : Operand} {k : IntKind} {n : Int} {ds : TypeDesc} (hT : TabOk P T) (ho : o.op = .convert s d x) (hs : tlook T s = some ds) (hd : tlook T d = some (.float .f64)) (hx : evO e x = some (.int k n)) : OpR P N e w o (.float .f64 (FloatKind.f64.nearest n)) := by
  intro q c ha
  simp [execOp, ho, ha.eval hx, convert, run_underlying (hT.at hs), run_underlying (hT.at hd), Conv.intToFloat, Sem.run_bind, Sem.run_pure]
theorem op_f2i {o : Oper} {s d : TypeId} {x : Operand} {b : Nat} {n : Int} {ds : TypeDesc} (hT : TabOk P T) (ho : o.op = .convert s d x) (hs : tlook T s = some ds) (hd : tlook T d = some (.int .i64)) (hx : evO e x = some (.float .f64 b)) (hn : (FloatKind.f64.decode b).toInt .zero = some n)
    (h0 : -9223372036854775808 ≤ n ∧ n ≤ 9223372036854775807) : OpR P N e w o (.int .i64 n) := by
  intro q c ha
  have e1 : IntKind.i64.min = -9223372036854775808 := rfl
  have e2 : IntKind.i64.max = 9223372036854775807 := rfl
  simp [execOp, ho, ha.eval hx, convert, run_underlying (hT.at hs), run_underlying (hT.at hd), Conv.floatToInt, Sem.run_bind, Sem.run_pure, hn, e1, e2, h0]
/-- a[i] of an array that is a value, of one cell each. -/
theorem op_indexA {o : Oper} {t el : TypeId} {x y : Operand} {cs : List Value} {n : Nat} {k : IntKind} {m : Int} {v : Value} {z : Value} {bytes : Nat} {d : TypeDesc} (hT : TabOk P T) (ho : o.op = .index t x y) (ht : P.underlying t = some (.array n el)) (hel : Elem P el z 1 bytes) (hd : tlook T el = some d) (hd2 : isAggD d = false)
    (hx : evO e x = some (.agg ⟨cs⟩)) (hy : evO e y = some (.int k m)) (h0 : 0 ≤ m) (h1 : m < n) (hv : cs[m.toNat]? = some v) : OpR P N e w o v := by
  intro q c ha
  simp only [execOp, ho, ha.eval hx, ha.eval hy, Instr.index, asIntOf]
  simp only [Sem.run_bind, Sem.run_pure, Result.andThen_ok, run_underlying ht, pure_bind, h0, h1, and_self, if_true, hel.run_size (World.dr w q), part, run_isAgg (hT.at hd), hd2]
  simp [hv]
/-- &a[i] of an array that a pointer leads to. -/
theorem op_ixA {o : Oper} {t el : TypeId} {x y : Operand} {g j0 j n : Nat} {k : IntKind} {m : Int} {z : Value} {sz bytes : Nat} (ho : o.op = .indexAddr t x y) (ht : P.underlying t = some (.array n el)) (hel : Elem P el z sz bytes)
    (hx : evO e x = some (.pointer (some ⟨g, j0, none⟩))) (hy : evO e y = some (.int k m)) (h0 : 0 ≤ m) (h1 : m < n) (hj : j0 + m.toNat * sz = j) : OpR P N e w o (.pointer (some ⟨g, j, none⟩)) := by
  intro q c ha
  have ea : (⟨g, j0, none⟩ : Addr).add (m.toNat * sz) = ⟨g, j, none⟩ := by rw [addB, hj]
  simp only [execOp, ho, ha.eval hx, ha.eval hy, Instr.indexAt, asIntOf, Instr.sureAddr]
  simp only [Sem.run_bind, Sem.run_pure, Result.andThen_ok, run_underlying ht, pure_bind]
  by_cases hn1 : n ≤ 1
  · simp [hn1, h0, h1, hel.run_size (World.dr w q), ea, run_underlying ht]
  · simp [hn1, h0, h1, hel.run_size (World.dr w q), ea, run_underlying ht]
/-- x.f of a struct that is a value, a field of one cell. -/
theorem op_field {o : Oper} {s : TypeId} {x : Operand} {k : Nat} {fields : Array Field} {f : Field} {cs : List Value} {v : Value} {d : TypeDesc} (hT : TabOk P T) (ho : o.op = .field s x k) (hs : P.underlying s = some (.struct fields)) (hf : fields[k]? = some f) (hd : tlook T f.type = some d) (hd2 : isAggD d = false)
    (hx : evO e x = some (.agg ⟨cs⟩)) (hv : cs[f.offset]? = some v) : OpR P N e w o v := by
  intro q c ha
  simp only [execOp, ho, ha.eval hx, Instr.field]
  simp [run_underlying hs, hf, part, run_isAgg (hT.at hd), hd2, hv, Sem.run_bind, Sem.run_pure, asAgg]
/-- A slice's literal of one element of several cells. -/
theorem gl_litS {ops : Array Oper} {o : Oper} {rest : List Oper} {d : Nat} {t el : TypeId} {x : Operand} {vs : List Value} {z : Value} {sz bytes : Nat}
    (hT : TabOk P T) (hS : St B w0 w L) (hel : Elem P el z sz bytes) (hd : o.dst = some d) (hg : o.guard = none) (hN : Nat.ble (d + 1) N = true) (ho : o.op = .buildSlice t 1 #[(0, x)])
    (ht : tlook T t = some (.slice el)) (hx : evO e x = some (.agg ⟨vs⟩)) (hl : vs.length = sz) (hk : sz ≤ 16777216)
    (h : ∀ g w', St B w0 w' (L ++ [.row (some ⟨g, 0, none⟩) 1 el sz 1 vs]) → GL P N ops ((d, .slice (some ⟨g, 0, none⟩) 1 1) :: e) rest Q w') : GL P N ops e (o :: rest) Q w := by
  obtain ⟨i, hi, hz, hs', hb⟩ := hel.ex
  have hpos := hel.pos
  have hrun : ∀ a, Fr N a e → (execOp a.eval o).run P w = .ok (.value (.slice (some ⟨w.heap.size, 0, none⟩) 1 1)) (w.alloc (.cells ⟨vs⟩ el)) := by
    intro a ha
    have hzv : (zeroValue el).run P w = .ok z w := by simp [zeroValue, typeInfo, hi, hz]
    have hzl : ((Array.range (1 * sz)).map (z.cells[· % z.cells.size]!)).toList.length = sz := by simp
    have hf : Instr.fill (fun i => some (i * sz, sz)) ((Array.range (1 * sz)).map (z.cells[· % z.cells.size]!)) [(0, .agg ⟨vs⟩)] = some ⟨vs⟩ := by
      have h0 : fillL [(0, sz)] ((Array.range (1 * sz)).map (z.cells[· % z.cells.size]!)).toList [(0, .agg ⟨vs⟩)] = some vs := by
        have hcl : cellsL (.agg ⟨vs⟩) = vs := rfl
        have hb2 : (Nat.beq vs.length sz && Nat.ble (0 + sz) ((Array.range (1 * sz)).map (z.cells[· % z.cells.size]!)).toList.length) = true := by simp [hl]
        simp only [fillL, List.getElem?_cons_zero, hcl, hb2, cond_true]
        rw [putL_eq _ _ _ (by omega), List.take_zero, List.nil_append, List.drop_eq_nil_of_le (by omega), List.append_nil]
      have := fill_of_L (place := fun i => some (i * sz, sz)) (pl := [(0, sz)]) (fun j p hp => by
        cases j with
        | zero => simp at hp; subst hp; simp
        | succ j => simp at hp) _ _ _ h0
      exact this
    have hle : ¬ 1 * sz > 2 ^ 24 := by omega
    have hne : ¬ 1 * sz = 0 := by omega
    simp only [execOp, ho, Instr.buildSlice, Sem.run_bind, run_underlying (hT.at ht), Result.andThen_ok, hel.run_size w, List.map_toArray, List.map_cons, List.map_nil, ha.eval hx, hle, hne, if_false, hzv, Sem.run_pure, hf]
    simp [newRow, newObj, Sem.run]
  refine gl_step hd (Nat.le_of_ble_eq_true hN) hg hrun (h _ _ (hS.add rfl rfl rfl (by simp) (fun b hb => Below.heap_alloc _ _ b hb) ?_ ?_))
  · refine ⟨by simp [hl], .inr ⟨w.heap.size, 1, ⟨vs⟩, rfl, hS.size, heap_alloc_new w _, Nat.le_refl _, Nat.le_refl _, by simp only [maxLen]; omega, by simp [hl], ?_⟩⟩
    rw [Nat.one_mul]; exact List.take_of_length_le (by simp [hl])
  · rintro b ⟨a, h, rfl⟩; injection h with h; rw [← h]; exact Nat.le_refl _
end
end Go.Proofs.Ytkfhablonnjgeaa
