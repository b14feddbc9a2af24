/- Our own words: reading memory, ends of functions, regions that draw their order and only read. Nothing here speaks of a statement; no condition. -/
import Derived.Test.YtpeomdobcobdiaaDoorLibB
namespace Go.Proofs.YtpeomdobcobdiaaDoor
open Go.RowKit
set_option linter.unusedVariables false
set_option linter.unusedSimpArgs false

/-! ### a world, some orders drawn -/
def World.dr (w : World) (n : Nat) : World := { w with drawn := n }
def Eqv (w w' : World) : Prop := ∃ n, w' = World.dr w n
theorem Eqv.refl (w : World) : Eqv w w := ⟨w.drawn, rfl⟩
theorem Eqv.trans {a b c : World} (h : Eqv a b) (k : Eqv b c) : Eqv a c := by
  obtain ⟨n, rfl⟩ := h; obtain ⟨m, rfl⟩ := k; exact ⟨m, rfl⟩
theorem Eqv.below {w w' : World} (h : Eqv w w') (B : Nat) : Below B w w' := by obtain ⟨n, rfl⟩ := h; exact ⟨rfl, rfl, rfl, Nat.le_refl _, fun _ _ => rfl⟩
theorem Eqv.drew (w : World) : Eqv w { w with drawn := w.drawn + 1 } := ⟨_, rfl⟩

/-! ### ends -/
theorem x_then_normal (K : Act → World → Prop) (Q : Exit → Act → World → Prop) : Exit.then K Q .normal = K := rfl
theorem x_then_ret (K : Act → World → Prop) (Q : Exit → Act → World → Prop) : Exit.then K Q .ret = Q .ret := rfl
theorem x_then_exit (K : Act → World → Prop) (Q : Exit → Act → World → Prop) (i : Nat) : Exit.then K Q (.exit i) = Q (.exit i) := rfl
theorem x_block_normal (i : Nat) (Q : Exit → Act → World → Prop) : Exit.inBlock i Q .normal = Q .normal := rfl
theorem x_block_ret (i : Nat) (Q : Exit → Act → World → Prop) : Exit.inBlock i Q .ret = Q .ret := rfl
theorem x_block_exit (i j : Nat) (Q : Exit → Act → World → Prop) : Exit.inBlock i Q (.exit j) = if j = i then Q .normal else Q (.exit j) := by
  funext a w; show (if j = i then _ else _) = _; split <;> rfl
section
variable {P : Program} {N : Nat} {e : Env} {Q : Exit → Act → World → Prop} {w : World} {T : TyTab}
theorem getD_of {a : Act} (ha : Fr N a e) {t : Nat} {v : Value} (h : look e t = some v) : a.tmps.getD t undef = v := by
  have := ha.get t v h
  simp [Array.getD_eq_getD_getElem?, this]
theorem gk_ret1 {fn : Func} {R : Ending → World → Prop} {t : Nat} {v : Value} (hr : fn.results = #[.tmp t]) (hv : look e t = some v) (h : R (.returned v) w) : GK N e (bodyPost P fn R .ret) w := fun a ha =>
  ⟨ha.defers, v, by rw [results_tmp hr, getD_of ha hv], h⟩
theorem gk_ret0 {fn : Func} {R : Ending → World → Prop} (hr : fn.results = #[]) (h : R (.returned (.tuple #[])) w) : GK N e (bodyPost P fn R .ret) w := fun a ha =>
  ⟨ha.defers, _, results_none hr _ _ _, h⟩
theorem gk_end0 {fn : Func} {R : Ending → World → Prop} (hr : fn.results = #[]) (h : R (.returned (.tuple #[])) w) : GK N e (bodyPost P fn R .normal) w := fun a ha =>
  ⟨ha.defers, _, results_none hr _ _ _, h⟩
theorem gk_ret2 {fn : Func} {R : Ending → World → Prop} {t1 t2 : Nat} {v1 v2 : Value} (hr : fn.results = #[.tmp t1, .tmp t2]) (h1 : look e t1 = some v1) (h2 : look e t2 = some v2)
    (h : R (.returned (.tuple #[v1, v2])) w) : GK N e (bodyPost P fn R .ret) w := fun a ha =>
  ⟨ha.defers, _, by rw [results_tmp2 hr, getD_of ha h1, getD_of ha h2], h⟩
theorem gk_ret3 {fn : Func} {R : Ending → World → Prop} {t1 t2 t3 : Nat} {v1 v2 v3 : Value} (hr : fn.results = #[.tmp t1, .tmp t2, .tmp t3]) (h1 : look e t1 = some v1) (h2 : look e t2 = some v2)
    (h3 : look e t3 = some v3) (h : R (.returned (.tuple #[v1, v2, v3])) w) : GK N e (bodyPost P fn R .ret) w := fun a ha =>
  ⟨ha.defers, .tuple #[v1, v2, v3], by simp [results, hr, ha.get _ _ h1, ha.get _ _ h2, ha.get _ _ h3], h⟩
theorem gk_ret4 {fn : Func} {R : Ending → World → Prop} {t1 t2 t3 t4 : Nat} {v1 v2 v3 v4 : Value} (hr : fn.results = #[.tmp t1, .tmp t2, .tmp t3, .tmp t4]) (h1 : look e t1 = some v1) (h2 : look e t2 = some v2)
    (h3 : look e t3 = some v3) (h4 : look e t4 = some v4) (h : R (.returned (.tuple #[v1, v2, v3, v4])) w) : GK N e (bodyPost P fn R .ret) w := fun a ha =>
  ⟨ha.defers, .tuple #[v1, v2, v3, v4], by simp [results, hr, ha.get _ _ h1, ha.get _ _ h2, ha.get _ _ h3, ha.get _ _ h4], h⟩

/-! ### operations that leave the world alone -/
def OpR (P : Program) (N : Nat) (e : Env) (w : World) (o : Oper) (v : Value) : Prop := ∀ n a, Fr N a e → (execOp a.eval o).run P (World.dr w n) = .ok (.value v) (World.dr w n)
theorem op_pure {o : Oper} {v : Value} (hT : TabOk P T) (hv : pureOp T e o.op = some v) : OpR P N e w o v := fun n a ha => run_pureOp hT hv ha _
theorem gl_op {ops : Array Oper} {o : Oper} {rest : List Oper} {d : Nat} {v : Value} (hd : o.dst = some d) (hg : o.guard = none) (hN : Nat.ble (d + 1) N = true) (hr : OpR P N e w o v)
    (h : GL P N ops ((d, v) :: e) rest Q w) : GL P N ops e (o :: rest) Q w :=
  gl_step hd (Nat.le_of_ble_eq_true hN) hg (fun a ha => hr w.drawn a ha) h
theorem gl_op_at {ops : Array Oper} {o : Oper} {rest : List Oper} {d : Nat} {v : Value} (hd : o.dst = some d) {j t : Nat} {want b : Bool} (hg : o.guard = some (j, want))
    (hj : ((ops[j]?).bind (·.dst)) = some t) (hl : look e t = some (.bool b)) (hwant : b = want) (hN : Nat.ble (d + 1) N = true) (hr : OpR P N e w o v)
    (h : GL P N ops ((d, v) :: e) rest Q w) : GL P N ops e (o :: rest) Q w := by
  intro a ha
  refine wpList_step fun K hK => ?_
  have hw : Region.wanted o (yielded ops a.tmps) = true := by
    simp [Region.wanted, hg, yielded_of hj ha hl, hwant]
  rw [if_pos hw]
  unfold Oper.wp
  have := hr w.drawn a ha
  rw [show World.dr w w.drawn = w from rfl] at this
  rw [this]
  show K (a.put o.dst v) w
  rw [hd]
  exact hK _ _ (h _ (ha.put (Nat.le_of_ble_eq_true hN) v))
/-- A byte of a string. -/
def btAt (s : ByteArray) (i : Int) : Int := ((s.data.toList.getD i.toNat 0).toNat : Int)
theorem op_index {o : Oper} {t : TypeId} {x i : Operand} {s : ByteArray} {k : IntKind} {n : Int} (hT : TabOk P T) (ho : o.op = .index t x i) (ht : tlook T t = some .string)
    (hx : evO e x = some (.string s)) (hi : evO e i = some (.int k n)) (h0 : 0 ≤ n) (h1 : n < s.size) : OpR P N e w o (.int .u8 (btAt s n)) := by
  intro m a ha
  have e1 := ha.eval hx; have e2 := ha.eval hi
  have hs : n.toNat < s.size := by omega
  have hs' : n.toNat < s.data.toList.length := by rw [Array.length_toList]; exact hs
  simp only [execOp, ho, e1, e2, Instr.index, asIntOf]
  simp only [Sem.run_bind, Sem.run_pure, Result.andThen_ok, run_underlying (hT.at ht), h0, if_true, pure_bind]
  have hb : s[n.toNat]? = some (s.data.toList.getD n.toNat 0) := by
    rw [getElem?_pos s n.toNat hs]
    rw [List.getD_eq_getElem?_getD, List.getElem?_eq_getElem hs', ByteArray.getElem_eq_getElem_data]
    simp
  simp [hb, btAt]
theorem btAt_range (s : ByteArray) (i : Int) : 0 ≤ btAt s i ∧ btAt s i ≤ 255 := by
  unfold btAt
  have := (s.data.toList.getD i.toNat 0).toNat_lt
  omega

/-! ### slices that are read -/
/-- The slice value's address A leads to n elements of sz cells each, cs in all, in blocks that are 'ok'. -/
def Rd (w : World) (ok : Nat → Prop) (A : Option Addr) (n sz : Nat) (cs : List Value) : Prop :=
  cs.length = n * sz ∧ (0 < n → ∃ ad, A = some ad ∧ ok ad.block ∧ ∀ j u, cs[j]? = some u → w.cell? (ad.add j) = some u)
def All : Nat → Prop := fun _ => True
theorem op_indexAddr {o : Oper} {t : TypeId} {x i : Operand} {el : TypeId} {A : Option Addr} {ad : Addr} {n c : Nat} {k : IntKind} {m : Int} {sz : Nat} (hT : TabOk P T) (ho : o.op = .indexAddr t x i) (ht : tlook T t = some (.slice el))
    (hsz : P.cellsOf el = sz) (hsome : (P.info? el).isSome = true) (hx : evO e x = some (.slice A n c)) (hi : evO e i = some (.int k m)) (h0 : 0 ≤ m) (h1 : m < n) (hA : A = some ad) : OpR P N e w o (.pointer (some (ad.add (m.toNat * sz)))) := by
  intro q a ha
  have e1 := ha.eval hx; have e2 := ha.eval hi
  subst hA
  have hs : (sizeOf el).run P (World.dr w q) = .ok sz (World.dr w q) := by
    obtain ⟨inf, hinf⟩ := Option.isSome_iff_exists.1 hsome
    have : inf.size = sz := by rw [← hsz]; simp [Program.cellsOf, hinf]
    simp [sizeOf, typeInfo, hinf, this]
  simp only [execOp, ho, e1, e2, Instr.indexAt, asIntOf]
  simp only [Sem.run_bind, Sem.run_pure, Result.andThen_ok, run_underlying (hT.at ht), pure_bind]
  simp [h0, h1, hs]
def isAggD : TypeDesc → Bool | .struct _ | .array _ _ => true | _ => false
theorem run_isAgg {t : TypeId} {d : TypeDesc} (ht : P.underlying t = some d) (w : World) : (isAgg t).run P w = .ok (isAggD d) w := by
  simp only [isAgg, Sem.run_bind, run_underlying ht, Result.andThen_ok]
  cases d <;> rfl
theorem op_load {o : Oper} {t : TypeId} {x : Operand} {p : Addr} {v : Value} {d : TypeDesc} (hT : TabOk P T) (ho : o.op = .load t x) (ht : tlook T t = some d) (hd : isAggD d = false)
    (hx : evO e x = some (.pointer (some p))) (hc : w.cell? p = some v) : OpR P N e w o v := by
  intro q a ha
  have e1 := ha.eval hx
  have hc' : (World.dr w q).cell? p = some v := hc
  simp only [execOp, ho, e1, Instr.loadAt, Instr.sureAddr, loadVar, Sem.run_bind, Sem.run_pure, Result.andThen_ok, pure_bind, run_isAgg (hT.at ht), hd]
  simp [load, Sem.run, hc']

/-! ### regions that draw their order and only read -/
def GQ (P : Program) (N : Nat) (ops : Array Oper) (e : Env) (l : List Oper) (C : World → Prop) (Q : Act → Prop) : Prop := ∀ a, Fr N a e → wpQuiet P ops C Q l a
theorem gc_quiet {i : Nat} {ops : Array Oper} (hm : P.follows .mixedOrders = true) (hB : Region.lexB .any ops = true)
    (h : GQ P N ops e ops.toList (Eqv w) (fun a => ∀ w', Eqv w w' → Q .normal a w')) : GC P N e (.region i ops true) Q w :=
  fun a ha => wp_region_quiet (C := Eqv w) hm hB (Eqv.drew w) (h a ha)
theorem gq_nil {ops : Array Oper} {Q : Exit → Act → World → Prop} (h : ∀ n, GK N e (Q .normal) (World.dr w n)) : GQ P N ops e [] (Eqv w) (fun a => ∀ w', Eqv w w' → Q .normal a w') := by
  intro a ha
  refine wpQuiet_nil fun w' hw => ?_
  obtain ⟨n, rfl⟩ := hw
  exact h n a ha
theorem gq_op {ops : Array Oper} {o : Oper} {rest : List Oper} {d : Nat} {v : Value} {Qa : Act → Prop} (hd : o.dst = some d) (hg : o.guard = none) (hN : Nat.ble (d + 1) N = true) (hr : OpR P N e w o v)
    (h : GQ P N ops ((d, v) :: e) rest (Eqv w) Qa) : GQ P N ops e (o :: rest) (Eqv w) Qa := by
  intro a ha
  refine wpQuiet_step fun K hK => ?_
  rw [if_pos (by simp [Region.wanted, hg])]
  refine ⟨v, fun w' hw => ?_, ?_⟩
  · obtain ⟨n, rfl⟩ := hw
    unfold Oper.quietAt
    rw [hr n a ha]
    exact ⟨rfl, rfl⟩
  · rw [hd]
    exact hK _ (h _ (ha.put (Nat.le_of_ble_eq_true hN) v))
theorem gq_op_at {ops : Array Oper} {o : Oper} {rest : List Oper} {d : Nat} {v : Value} {Qa : Act → Prop} (hd : o.dst = some d) {j t : Nat} {want b : Bool} (hg : o.guard = some (j, want))
    (hj : ((ops[j]?).bind (·.dst)) = some t) (hl : look e t = some (.bool b)) (hwant : b = want) (hN : Nat.ble (d + 1) N = true) (hr : OpR P N e w o v)
    (h : GQ P N ops ((d, v) :: e) rest (Eqv w) Qa) : GQ P N ops e (o :: rest) (Eqv w) Qa := by
  intro a ha
  refine wpQuiet_step fun K hK => ?_
  rw [if_pos (by simp [Region.wanted, hg, yielded_of hj ha hl, hwant])]
  refine ⟨v, fun w' hw => ?_, ?_⟩
  · obtain ⟨n, rfl⟩ := hw
    unfold Oper.quietAt
    rw [hr n a ha]
    exact ⟨rfl, rfl⟩
  · rw [hd]
    exact hK _ (h _ (ha.put (Nat.le_of_ble_eq_true hN) v))
theorem gq_pass {ops : Array Oper} {o : Oper} {rest : List Oper} {d : Nat} {Qa : Act → Prop} (hd : o.dst = some d) {j t : Nat} {want b : Bool} (hg : o.guard = some (j, want))
    (hj : ((ops[j]?).bind (·.dst)) = some t) (hl : look e t = some (.bool b)) (hwant : b = !want)
    (hN : Nat.ble (d + 1) N = true) (h : GQ P N ops ((d, undef) :: e) rest (Eqv w) Qa) : GQ P N ops e (o :: rest) (Eqv w) Qa := by
  intro a ha
  refine wpQuiet_step fun K hK => ?_
  have hw : Region.wanted o (yielded ops a.tmps) = false := by
    subst hwant
    cases want <;> simp [Region.wanted, hg, yielded_of hj ha hl]
  rw [if_neg (by rw [hw]; simp), hd]
  exact hK _ (h _ (ha.put (Nat.le_of_ble_eq_true hN) undef))
theorem gq_split {ops : Array Oper} {l : List Oper} {t : Nat} {b : Bool} {Qa : Act → Prop} (hb : look e t = some (.bool b))
    (h1 : b = true → GQ P N ops ((t, .bool true) :: e) l (Eqv w) Qa) (h2 : b = false → GQ P N ops ((t, .bool false) :: e) l (Eqv w) Qa) : GQ P N ops e l (Eqv w) Qa := by
  intro a ha
  cases b with
  | true => exact h1 rfl a (ha.spell hb rfl)
  | false => exact h2 rfl a (ha.spell hb rfl)
/-- Arguments by the slots. -/
def evArgs (e : Env) : List Operand → Option (List Value)
  | [] => some []
  | x :: r => match evO e x, evArgs e r with
    | some v, some l => some (v :: l)
    | _, _ => none
theorem evArgs_map {a : Act} (ha : Fr N a e) : ∀ {l : List Operand} {vs : List Value}, evArgs e l = some vs → l.map a.eval = vs
  | [], vs, h => by simp [evArgs] at h; simp [h]
  | x :: r, vs, h => by
    unfold evArgs at h
    split at h
    · rename_i v l hx hr
      simp only [Option.some.injEq] at h
      subst h
      simp [ha.eval hx, evArgs_map ha hr]
    · cases h
theorem run_callOp {o : Oper} {f : FuncId} {xs : List Operand} {ts : Array TypeId} {vs : List Value} {fn : Func} {c : Code} (ho : o.op = .call { callee := .value (.func f), args := ⟨xs⟩, argTypes := ts })
    (hf : P.funcs[f]? = some fn) (hb : fn.body = some c) (hname : (fn.name == "runtime.NumGoroutine") = false) (hx : evArgs e xs = some vs) {a : Act} (ha : Fr N a e) (w : World) :
    (execOp a.eval o).run P w = .ok (.enter f ⟨vs⟩) w := by
  have h1 := evArgs_map ha hx
  simp only [execOp, ho, resolve, invoke, Deferred.ofValue, Act.eval, callFunc, Sem.run_bind, Sem.run_pure, Result.andThen_ok, pure_bind]
  have hp : (program).run P w = .ok P w := rfl
  simp [hp, hf, hb, h1]
  simpa using hname
theorem gl_callf {ops : Array Oper} {o : Oper} {rest : List Oper} {d : Nat} {f : FuncId} {xs : List Operand} {ts : Array TypeId} {vs : List Value} {fn : Func} {c : Code} {R : Ending → World → Prop}
    (hd : o.dst = some d) (hg : o.guard = none) (hN : Nat.ble (d + 1) N = true) (ho : o.op = .call { callee := .value (.func f), args := ⟨xs⟩, argTypes := ts })
    (hf : P.funcs[f]? = some fn) (hb : fn.body = some c) (hname : (fn.name == "runtime.NumGoroutine") = false) (hx : evArgs e xs = some vs) (hc : Calls P f ⟨vs⟩ w R)
    (h : ∀ en w', R en w' → ∃ v, en = .returned v ∧ GL P N ops ((d, v) :: e) rest Q w') : GL P N ops e (o :: rest) Q w :=
  gl_call hd (Nat.le_of_ble_eq_true hN) hg (fun a ha => run_callOp ho hf hb hname hx ha w) hc h
theorem gq_callf {ops : Array Oper} {o : Oper} {rest : List Oper} {d : Nat} {f : FuncId} {xs : List Operand} {ts : Array TypeId} {vs : List Value} {fn : Func} {c : Code} {v : Value} {Qa : Act → Prop}
    (hd : o.dst = some d) (hg : o.guard = none) (hN : Nat.ble (d + 1) N = true) (ho : o.op = .call { callee := .value (.func f), args := ⟨xs⟩, argTypes := ts })
    (hf : P.funcs[f]? = some fn) (hb : fn.body = some c) (hname : (fn.name == "runtime.NumGoroutine") = false) (hx : evArgs e xs = some vs)
    (hc : ∀ n, Calls P f ⟨vs⟩ (World.dr w n) fun en w' => en = .returned v ∧ Eqv (World.dr w n) w')
    (h : GQ P N ops ((d, v) :: e) rest (Eqv w) Qa) : GQ P N ops e (o :: rest) (Eqv w) Qa := by
  intro a ha
  refine wpQuiet_step fun K hK => ?_
  rw [if_pos (by simp [Region.wanted, hg])]
  refine ⟨v, fun w' hw => ?_, ?_⟩
  · obtain ⟨n, rfl⟩ := hw
    unfold Oper.quietAt
    rw [run_callOp ho hf hb hname hx ha]
    exact ⟨rfl, (hc n).mono fun en w'' ⟨h1, h2⟩ => ⟨h1, Eqv.trans ⟨n, rfl⟩ h2⟩⟩
  · rw [hd]
    exact hK _ (h _ (ha.put (Nat.le_of_ble_eq_true hN) v))
/-! ### typed reading -/
def RdE {α : Type} (w : World) (ok : Nat → Prop) (enc : α → Value) (A : Option Addr) (l : List α) : Prop := Rd w ok A l.length 1 (l.map enc)
theorem RdE.at {α : Type} {ok : Nat → Prop} {enc : α → Value} {A : Option Addr} {l : List α} (h : RdE w ok enc A l) (z : α) {i : Int} (h0 : 0 ≤ i) (h1 : i < l.length) :
    ∃ ad, A = some ad ∧ w.cell? (ad.add (i.toNat * 1)) = some (enc (l.getD i.toNat z)) := by
  obtain ⟨ad, hA, _, hc⟩ := h.2 (by omega)
  refine ⟨ad, hA, hc _ _ ?_⟩
  have hlt : i.toNat < l.length := by omega
  simp [List.getD_eq_getElem?_getD, hlt]
theorem gl_ix {α : Type} {ops : Array Oper} {o : Oper} {rest : List Oper} {d : Nat} {t : TypeId} {x i : Operand} {el : TypeId} {A : Option Addr} {n c : Nat} {k : IntKind} {m : Int} {ok : Nat → Prop} {enc : α → Value} {l : List α} (z : α)
    (hT : TabOk P T) (hrd : RdE w ok enc A l) (hd : o.dst = some d) (hg : o.guard = none) (hN : Nat.ble (d + 1) N = true) (ho : o.op = .indexAddr t x i) (ht : tlook T t = some (.slice el))
    (hsz : P.cellsOf el = 1) (hsome : (P.info? el).isSome = true) (hx : evO e x = some (.slice A n c)) (hn : n = l.length) (hi : evO e i = some (.int k m)) (h0 : 0 ≤ m) (h1 : m < l.length)
    (h : ∀ p, w.cell? p = some (enc (l.getD m.toNat z)) → GL P N ops ((d, .pointer (some p)) :: e) rest Q w) : GL P N ops e (o :: rest) Q w := by
  subst hn
  obtain ⟨ad, hA, hc⟩ := hrd.at z h0 h1
  exact gl_op hd hg hN (op_indexAddr hT ho ht hsz hsome hx hi h0 h1 hA) (h _ hc)
theorem gq_ix {α : Type} {ops : Array Oper} {o : Oper} {rest : List Oper} {d : Nat} {t : TypeId} {x i : Operand} {el : TypeId} {A : Option Addr} {n c : Nat} {k : IntKind} {m : Int} {ok : Nat → Prop} {enc : α → Value} {l : List α} {Qa : Act → Prop} (z : α)
    (hT : TabOk P T) (hrd : RdE w ok enc A l) (hd : o.dst = some d) (hg : o.guard = none) (hN : Nat.ble (d + 1) N = true) (ho : o.op = .indexAddr t x i) (ht : tlook T t = some (.slice el))
    (hsz : P.cellsOf el = 1) (hsome : (P.info? el).isSome = true) (hx : evO e x = some (.slice A n c)) (hn : n = l.length) (hi : evO e i = some (.int k m)) (h0 : 0 ≤ m) (h1 : m < l.length)
    (h : ∀ p, w.cell? p = some (enc (l.getD m.toNat z)) → GQ P N ops ((d, .pointer (some p)) :: e) rest (Eqv w) Qa) : GQ P N ops e (o :: rest) (Eqv w) Qa := by
  subst hn
  obtain ⟨ad, hA, hc⟩ := hrd.at z h0 h1
  exact gq_op hd hg hN (op_indexAddr hT ho ht hsz hsome hx hi h0 h1 hA) (h _ hc)
/-! ### sums that fit -/
theorem wrap_i64 {n : Int} (h : -9223372036854775808 ≤ n ∧ n ≤ 9223372036854775807) : IntKind.i64.wrap n = n := by
  rw [IntKind.wrap_i64]; omega
theorem gl_fit {ops : Array Oper} {o : Oper} {rest : List Oper} {d : Nat} {n : Int} (hT : TabOk P T) (hd : o.dst = some d) (hg : o.guard = none) (hv : pureOp T e o.op = some (.int .i64 (IntKind.i64.wrap n)))
    (hN : Nat.ble (d + 1) N = true) (hb : -9223372036854775808 ≤ n ∧ n ≤ 9223372036854775807) (h : GL P N ops ((d, .int .i64 n) :: e) rest Q w) : GL P N ops e (o :: rest) Q w := by
  refine gl_pure hT hd hg (hv.trans (by rw [wrap_i64 hb])) hN h
theorem gq_fit {ops : Array Oper} {o : Oper} {rest : List Oper} {d : Nat} {n : Int} {Qa : Act → Prop} (hT : TabOk P T) (hd : o.dst = some d) (hg : o.guard = none) (hv : pureOp T e o.op = some (.int .i64 (IntKind.i64.wrap n)))
    (hN : Nat.ble (d + 1) N = true) (hb : -9223372036854775808 ≤ n ∧ n ≤ 9223372036854775807) (h : GQ P N ops ((d, .int .i64 n) :: e) rest (Eqv w) Qa) : GQ P N ops e (o :: rest) (Eqv w) Qa :=
  gq_op hd hg hN (op_pure hT (hv.trans (by rw [wrap_i64 hb]))) h
theorem op_quo {o : Oper} {x y : Int} (hT : TabOk P T) (hv : pureOp T e o.op = some (.int .i64 (IntKind.i64.wrap (x.tdiv y)))) (h0 : 0 ≤ x ∧ x ≤ 9223372036854775807) (hy : 1 ≤ y) : OpR P N e w o (.int .i64 (x / y)) := by
  refine op_pure hT (hv.trans ?_)
  rw [Int.tdiv_eq_ediv_of_nonneg h0.1, wrap_i64]
  have h1 : 0 ≤ x / y := Int.ediv_nonneg h0.1 (by omega)
  have h2 : x / y ≤ x := Int.ediv_le_self y h0.1
  omega
theorem op_rem {o : Oper} {k : IntKind} {x y : Int} (hT : TabOk P T) (hv : pureOp T e o.op = some (.int k (x.tmod y))) (h0 : 0 ≤ x) : OpR P N e w o (.int k (x % y)) := by
  refine op_pure hT (hv.trans ?_)
  rw [Int.tmod_eq_emod_of_nonneg h0]
theorem op_shl {o : Oper} {t yt : TypeId} {x y : Operand} {k k2 : IntKind} {m n : Int} (ho : o.op = .binOp .shl t x y yt) (hx : evO e x = some (.int k m)) (hy : evO e y = some (.int k2 n)) (h0 : 0 ≤ n) (h1 : n ≤ k.bits) : OpR P N e w o (.int k (k.wrap (m * 2 ^ n.toNat))) := by
  intro q a ha
  simp only [execOp, ho, ha.eval hx, ha.eval hy, eqGuard_at_int, binOp_shl, shift_shl k k2 m n h0 h1]
  rfl
theorem op_shr {o : Oper} {t yt : TypeId} {x y : Operand} {k k2 : IntKind} {m n : Int} (ho : o.op = .binOp .shr t x y yt) (hx : evO e x = some (.int k m)) (hy : evO e y = some (.int k2 n)) (h0 : 0 ≤ n) (h1 : n ≤ k.bits) : OpR P N e w o (.int k (m / 2 ^ n.toNat)) := by
  intro q a ha
  simp only [execOp, ho, ha.eval hx, ha.eval hy, eqGuard_at_int, binOp_shr, shift_shr k k2 m n h0 h1]
  rfl
theorem gl_spell {ops : Array Oper} {l : List Oper} (t : Nat) {u v : Value} (hu : look e t = some u) (huv : u = v) (h : GL P N ops ((t, v) :: e) l Q w) : GL P N ops e l Q w :=
  fun a ha => h a (ha.spell hu huv)
theorem gc_spell {c : Code} (t : Nat) {u v : Value} (hu : look e t = some u) (huv : u = v) (h : GC P N ((t, v) :: e) c Q w) : GC P N e c Q w :=
  fun a ha => h a (ha.spell hu huv)
theorem gc_of {c : Code} {a : Act} (ha : Fr N a e) (h : GC P N e c Q w) : c.wp P Q a w := h a ha
theorem gk_of {K : Act → World → Prop} (h : ∀ a, Fr N a e → K a w) : GK N e K w := h
end
end Go.Proofs.YtpeomdobcobdiaaDoor
