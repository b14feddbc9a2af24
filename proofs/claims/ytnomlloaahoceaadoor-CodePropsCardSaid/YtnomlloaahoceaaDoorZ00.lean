/- Contracts of functions that CodeProps reaches, and words to say them. No condition. -/
import Derived.WalkKit
import Derived.Deep.Quiet
import Derived.KernelRfl
/- Our own words for walking a function's code: a frame told by a list of slots, operations that only reckon, and steps through regions and calls. Nothing here speaks of a statement; no condition. -/
namespace Go.Proofs.YtnomlloaahoceaaDoor
open Go.RowKit
set_option linter.unusedVariables false
set_option linter.unusedSimpArgs false

/-! ### frames -/
abbrev Env := List (Nat × Value)
def look : Env → Nat → Option Value
  | [], _ => none
  | (k, v) :: r, t => bif Nat.beq k t then some v else look r t
structure Nt where
  n : Nat
  ds : List Deferred
instance (k : Nat) : OfNat Nt k := ⟨⟨k, []⟩⟩
instance : Coe Nt Nat := ⟨Nt.n⟩
structure Fr (N : Nt) (a : Act) (e : Env) : Prop where
  defers : a.defers = N.ds
  size : a.tmps.size = N
  get : ∀ t v, look e t = some v → a.tmps[t]? = some v
def evO (e : Env) : Operand → Option Value
  | .tmp t => look e t
  | .const v => some v
  | .global g => some (.pointer (some ⟨g, 0, none⟩))
  | .func f => some (.func (.func f) #[] #[])
theorem Fr.eval {N : Nt} {a : Act} {e : Env} (h : Fr N a e) {x : Operand} {v : Value} (hx : evO e x = some v) : a.eval x = v := by
  cases x with
  | tmp t => have := h.get t v hx; simp [Act.eval, Array.getD_eq_getD_getElem?, this]
  | const u => simpa [evO, Act.eval] using hx
  | global g => simpa [evO, Act.eval] using hx
  | func f => simpa [evO, Act.eval] using hx
theorem look_cons {e : Env} {d t : Nat} {v u : Value} (h : look ((d, v) :: e) t = some u) : (d = t ∧ u = v) ∨ (d ≠ t ∧ look e t = some u) := by
  unfold look at h
  by_cases hd : d = t
  · subst hd
    simp at h
    exact .inl ⟨rfl, h.symm⟩
  · have : Nat.beq d t = false := by
      rw [Bool.eq_false_iff]; exact fun hb => hd (Nat.eq_of_beq_eq_true hb)
    rw [this] at h
    exact .inr ⟨hd, by simpa using h⟩
theorem Fr.put {N : Nt} {a : Act} {e : Env} (h : Fr N a e) {d : Nat} (hd : d < N) (v : Value) : Fr N (a.put (some d) v) ((d, v) :: e) := by
  refine ⟨h.defers, by simp [Act.put, h.size], fun t u hu => ?_⟩
  rcases look_cons hu with ⟨rfl, rfl⟩ | ⟨hne, hu⟩
  · simp [Act.put, h.size, hd]
  · have := h.get t u hu
    simp [Act.put, Array.getElem?_setIfInBounds, hne, this]
def subEnv (e : Env) : Env → Prop
  | [] => True
  | (t, v) :: r => look e t = some v ∧ subEnv e r
theorem Fr.sub {N : Nt} {a : Act} {e : Env} (h : Fr N a e) : ∀ {e' : Env}, subEnv e e' → Fr N a e' := by
  intro e' hs
  refine ⟨h.defers, h.size, fun t v hv => h.get t v ?_⟩
  induction e' with
  | nil => simp [look] at hv
  | cons p r ih =>
    obtain ⟨k, u⟩ := p
    obtain ⟨h1, h2⟩ := hs
    rcases look_cons hv with ⟨rfl, rfl⟩ | ⟨_, hv⟩
    · exact h1
    · exact ih h2 hv
theorem Fr.spell {N : Nt} {a : Act} {e : Env} (h : Fr N a e) {t : Nat} {u v : Value} (hu : look e t = some u) (huv : u = v) : Fr N a ((t, v) :: e) := by
  subst huv
  refine ⟨h.defers, h.size, fun s x hx => ?_⟩
  rcases look_cons hx with ⟨rfl, rfl⟩ | ⟨_, hx⟩
  · exact h.get _ _ hu
  · exact h.get _ _ hx

/-! ### goals -/
def GC (P : Program) (N : Nt) (e : Env) (c : Code) (Q : Exit → Act → World → Prop) (w : World) : Prop := ∀ a, Fr N a e → c.wp P Q a w
def GL (P : Program) (N : Nt) (ops : Array Oper) (e : Env) (l : List Oper) (Q : Exit → Act → World → Prop) (w : World) : Prop := ∀ a, Fr N a e → wpList P ops Q l a w
def GK (N : Nt) (e : Env) (K : Act → World → Prop) (w : World) : Prop := ∀ a, Fr N a e → K a w

section
variable {P : Program} {N : Nt} {e : Env} {Q : Exit → Act → World → Prop} {w : World}
theorem gc_enter {f : FuncId} {fn : Func} {c : Code} {vals : List Value} {R : Ending → World → Prop} (hf : P.funcs[f]? = some fn) (hb : fn.body = some c)
    (hN : fn.ntmps = N) (hl0 : Nat.ble vals.length N = true) (e : Env) (he : e = (List.range vals.length).zip vals) (h : GC P N e c (bodyPost P fn R) w) (hds : N.ds = [] := by rfl) : Calls P f ⟨vals⟩ w R := by
  have hl := Nat.le_of_ble_eq_true hl0
  subst he
  refine calls_of_wp hf hb (h _ ⟨hds.symm, by simp [hN]; omega, fun t v hv => ?_⟩)
  have hz : ∀ (l : List Value) (k : Nat) (t : Nat) (v : Value), look ((List.range' k l.length).zip l) t = some v → k ≤ t ∧ l[t - k]? = some v := by
    intro l
    induction l with
    | nil => intro k t v hh; simp [look] at hh
    | cons x l ih =>
      intro k t v hh
      rw [List.length_cons, List.range'_succ, List.zip_cons_cons] at hh
      rcases look_cons hh with ⟨rfl, rfl⟩ | ⟨hne, hh⟩
      · simp
      · obtain ⟨h1, h2⟩ := ih _ _ _ hh
        refine ⟨by omega, ?_⟩
        rw [show t - k = (t - (k + 1)) + 1 by omega]
        simpa using h2
  obtain ⟨_, h2⟩ := hz vals 0 t v (by rwa [← List.range_eq_range'])
  have hlt : t < vals.length := by
    rcases Nat.lt_or_ge t vals.length with h | h
    · exact h
    · rw [Nat.sub_zero, List.getElem?_eq_none h] at h2; cases h2
  simp only [Nat.sub_zero] at h2
  rw [Array.getElem?_append_left (by simpa using hlt)]
  simpa using h2
theorem gc_seq {x y : Code} (h : ∀ K : Act → World → Prop, (∀ e' w', GC P N e' y Q w' → GK N e' K w') → GC P N e x (Exit.then K Q) w) : GC P N e (.seq x y) Q w :=
  fun a ha => wp_seq (h _ (fun _ _ hg a' ha' => hg a' ha') a ha)
theorem gc_skip (h : GK N e (Q .normal) w) : GC P N e .skip Q w := fun a ha => wp_skip (h a ha)
theorem gc_ret (h : GK N e (Q .ret) w) : GC P N e .ret Q w := fun a ha => wp_ret (h a ha)
theorem gc_exit {i : Nat} (h : GK N e (Q (.exit i)) w) : GC P N e (.exit i) Q w := fun a ha => wp_exit (h a ha)
theorem gc_block {i : Nat} {c : Code} (h : GC P N e c (Exit.inBlock i Q) w) : GC P N e (.block i c) Q w := fun a ha => wp_block (h a ha)
theorem gc_region {i : Nat} {ops : Array Oper} (h : GL P N ops e ops.toList Q w) : GC P N e (.region i ops false) Q w := fun a ha => wp_region_list (h a ha)
theorem gc_cond {c : Operand} {x y : Code} {b : Bool} {t : Nat} (hc : c = .tmp t) (hb : look e t = some (.bool b))
    (h1 : b = true → GC P N ((t, .bool true) :: e) x Q w) (h2 : b = false → GC P N ((t, .bool false) :: e) y Q w) : GC P N e (.cond c x y) Q w := by
  subst hc
  intro a ha
  have hv : a.eval (.tmp t) = .bool b := ha.eval (x := .tmp t) hb
  refine wp_cond_split hv (fun h => h1 h a (ha.spell hb (by rw [h]))) (fun h => h2 h a (ha.spell hb (by rw [h])))
theorem gc_cond_t {c : Operand} {x y : Code} (hb : evO e c = some (.bool true)) (h : GC P N e x Q w) : GC P N e (.cond c x y) Q w :=
  fun a ha => wp_cond (ha.eval hb) (h a ha)
theorem gc_cond_f {c : Operand} {x y : Code} (hb : evO e c = some (.bool false)) (h : GC P N e y Q w) : GC P N e (.cond c x y) Q w :=
  fun a ha => wp_cond (ha.eval hb) (h a ha)
theorem gc_loop {c : Code} (I : Nat → Act → World → Prop) (k0 : Nat) (h0 : GK N e (I k0) w) (hz : ∀ a w, ¬ I 0 a w)
    (round : ∀ k a w, I (k + 1) a w → c.wp P (Exit.then (I k) Q) a w) : GC P N e (.loop c) Q w := by
  intro a ha
  refine wp_loop (fun a w => ∃ k, I k a w) (fun a w => Classical.epsilon (fun k => I k a w ∧ ∀ j, I j a w → k ≤ j)) ⟨k0, h0 a ha⟩ ?_
  have hmin : ∀ a w, (∃ k, I k a w) → ∃ k, I k a w ∧ ∀ j, I j a w → k ≤ j := by
    intro a w ⟨k, hk⟩
    induction k using Nat.strongRecOn with
    | _ k ih =>
      by_cases h : ∃ j, j < k ∧ I j a w
      · obtain ⟨j, hj, hi⟩ := h; exact ih j hj hi
      · exact ⟨k, hk, fun j hj => Nat.le_of_not_lt fun hlt => h ⟨j, hlt, hj⟩⟩
  intro a1 w1 hI
  have hm := Classical.epsilon_spec (hmin a1 w1 hI)
  generalize hk : Classical.epsilon (fun k => I k a1 w1 ∧ ∀ j, I j a1 w1 → k ≤ j) = k at hm
  cases k with
  | zero => exact absurd hm.1 (hz _ _)
  | succ k =>
    refine wp_mono (round k a1 w1 hm.1) ?_
    intro ex a' w' hq
    cases ex with
    | normal =>
      refine ⟨⟨k, hq⟩, ?_⟩
      have h2 := Classical.epsilon_spec (hmin a' w' ⟨k, hq⟩)
      have := h2.2 k hq
      omega
    | _ => exact hq
theorem gl_nil {ops : Array Oper} (h : GK N e (Q .normal) w) : GL P N ops e [] Q w := fun a ha => wpList_nil (h a ha)
theorem gl_step {ops : Array Oper} {o : Oper} {rest : List Oper} {d : Nat} {v : Value} {w' : World} (hd : o.dst = some d) (hN : d < N) (hg : o.guard = none)
    (hrun : ∀ a, Fr N a e → (execOp a.eval o).run P w = .ok (.value v) w') (h : GL P N ops ((d, v) :: e) rest Q w') : GL P N ops e (o :: rest) Q w := by
  intro a ha
  refine wpList_plain hg fun K hK => ?_
  unfold Oper.wp
  rw [hrun a ha]
  show K (a.put o.dst v) w'
  rw [hd]
  exact hK _ _ (h _ (ha.put hN v))
theorem gl_act {ops : Array Oper} {o : Oper} {rest : List Oper} {w' : World} (hd : o.dst = none) (hg : o.guard = none)
    (hrun : ∀ a, Fr N a e → (execOp a.eval o).run P w = .ok .skip w') (h : GL P N ops e rest Q w') : GL P N ops e (o :: rest) Q w := by
  intro a ha
  refine wpList_plain hg fun K hK => ?_
  unfold Oper.wp
  rw [hrun a ha]
  show K (a.put o.dst undef) w'
  rw [hd]
  exact hK _ _ (h _ ha)
theorem gl_call {ops : Array Oper} {o : Oper} {rest : List Oper} {d : Nat} {f : FuncId} {vals : Array Value} {R : Ending → World → Prop} (hd : o.dst = some d) (hN : d < N) (hg : o.guard = none)
    (hrun : ∀ a, Fr N a e → (execOp a.eval o).run P w = .ok (.enter f vals) w) (hc : Calls P f vals w R)
    (h : ∀ en w', R en w' → ∃ v, en = .returned v ∧ GL P N ops ((d, v) :: e) rest Q w') : GL P N ops e (o :: rest) Q w := by
  intro a ha
  refine wpList_plain hg fun K hK => ?_
  unfold Oper.wp
  rw [hrun a ha]
  refine hc.mono fun en w' hR => ?_
  obtain ⟨v, rfl, hG⟩ := h en w' hR
  show K (a.put o.dst v) w'
  rw [hd]
  exact hK _ _ (hG _ (ha.put hN v))
theorem yielded_of {a : Act} {ops : Array Oper} {j t : Nat} {b : Bool} (hj : ((ops[j]?).bind (·.dst)) = some t) (ha : Fr N a e) (hl : look e t = some (.bool b)) : yielded ops a.tmps j = some b := by
  have := ha.get t _ hl
  unfold yielded
  revert hj
  cases h : ops[j]? with
  | none => simp
  | some o =>
    simp only [Option.bind_some]
    intro ho
    simp [ho, Array.getD_eq_getD_getElem?, this]
end
end Go.Proofs.YtnomlloaahoceaaDoor


/- Our own words: operations that only reckon with what the slots hold, told by a function, and the steps through them. Nothing here speaks of a statement; no condition. -/
namespace Go.Proofs.YtnomlloaahoceaaDoor
open Go.RowKit
set_option linter.unusedVariables false
set_option linter.unusedSimpArgs false

abbrev TyTab := List (Nat × TypeDesc)
def tlook : TyTab → Nat → Option TypeDesc
  | [], _ => none
  | (k, v) :: r, t => bif Nat.beq k t then some v else tlook r t
def TabOk (P : Program) : TyTab → Prop
  | [] => True
  | (k, d) :: r => P.underlying k = some d ∧ TabOk P r
theorem TabOk.at {P : Program} {T : TyTab} (h : TabOk P T) {t : Nat} {d : TypeDesc} (hl : tlook T t = some d) : P.underlying t = some d := by
  induction T with
  | nil => simp [tlook] at hl
  | cons p r ih =>
    obtain ⟨k, u⟩ := p
    unfold tlook at hl
    by_cases hk : k = t
    · subst hk
      simp at hl
      subst hl
      exact h.1
    · have : Nat.beq k t = false := by
        rw [Bool.eq_false_iff]; exact fun hb => hk (Nat.eq_of_beq_eq_true hb)
      rw [this] at hl
      exact ih h.2 (by simpa using hl)

def pureInt (op : BinOp) (k : IntKind) (a b : Int) : Option Value :=
  match op with
  | .add => some (.int k (k.wrap (a + b)))
  | .sub => some (.int k (k.wrap (a - b)))
  | .mul => some (.int k (k.wrap (a * b)))
  | .quo => match b with | .ofNat (_ + 1) => some (.int k (k.wrap (a.tdiv b))) | _ => none
  | .rem => match b with | .ofNat (_ + 1) => some (.int k (a.tmod b)) | _ => none
  | .and => some (.int k (bits .and k a b))
  | .or => some (.int k (bits .or k a b))
  | .xor => some (.int k (bits .xor k a b))
  | .andNot => some (.int k (bits .andNot k a b))
  | .eql => some (.bool (decide (a = b)))
  | .neq => some (.bool (!decide (a = b)))
  | .lss => some (.bool (decide (a < b)))
  | .leq => some (.bool (decide (a ≤ b)))
  | .gtr => some (.bool (decide (b < a)))
  | .geq => some (.bool (decide (b ≤ a)))
  | _ => none
def pureShift (op : BinOp) (k : IntKind) (a b : Int) : Option Value :=
  match op, b with
  | .shl, .ofNat n => some (.int k (k.wrap (a * 2 ^ (min n k.bits))))
  | .shr, .ofNat n => some (.int k (a / 2 ^ (min n k.bits)))
  | _, _ => none
def isShift : BinOp → Bool | .shl | .shr => true | _ => false
def pureStr (op : BinOp) (a b : ByteArray) : Option Value :=
  match op with
  | .eql => some (.bool (decide (a = b)))
  | .neq => some (.bool (!decide (a = b)))
  | _ => none
def pureBin (op : BinOp) (x y : Value) : Option Value :=
  match x, y with
  | .int k a, .int k' b => bif isShift op then pureShift op k a b else if k = k' then pureInt op k a b else none
  | .string a, .string b => pureStr op a b
  | _, _ => none

def pureOp (T : TyTab) (e : Env) (op : Op) : Option Value :=
  match op with
  | .move x | .assign x => evO e x
  | .pick c a b => match evO e c with
    | some (.bool true) => evO e a
    | some (.bool false) => evO e b
    | _ => none
  | .binOp op t x y _ => match evO e x, evO e y with
    | some (.bool a), some (.bool b) => match tlook T t, op with
      | some .bool, .eql => some (.bool (a == b))
      | some .bool, .neq => some (.bool (!(a == b)))
      | _, _ => none
    | some u, some v => pureBin op u v
    | _, _ => none
  | .unOp op _ x => match op, evO e x with
    | .not, some (.bool b) => some (.bool (!b))
    | .neg, some (.int k n) => some (.int k (k.wrap (0 - n)))
    | .xor, some (.int k n) => some (.int k (bits .xor k (if k.signed then -1 else k.max) n))
    | _, _ => none
  | .convert s d x => match tlook T s, tlook T d, evO e x with
    | some _, some (.int k), some (.int _ n) => some (.int k (k.wrap n))
    | _, _, _ => none
  | .extract x i => match evO e x with
    | some (.tuple vs) => vs[i]?
    | _ => none
  | .nilCheck x => match evO e x with
    | some (.pointer (some a)) => some (.pointer (some a))
    | _ => none
  | .call c => match c.callee with
    | .builtin .len => match c.args[0]?, c.argTypes[0]? with
      | some x, some t => match tlook T t, evO e x with
        | some .string, some (.string s) => some (.int .i64 s.size)
        | some (.slice _), some (.slice _ n _) => some (.int .i64 n)
        | _, _ => none
      | _, _ => none
    | .builtin .cap => match c.args[0]?, c.argTypes[0]? with
      | some x, some t => match tlook T t, evO e x with
        | some (.slice _), some (.slice _ _ n) => some (.int .i64 n)
        | _, _ => none
      | _, _ => none
    | _ => none
  | _ => none

theorem byteArray_beq (a b : ByteArray) : (a.toList == b.toList) = decide (a = b) := by
  rw [Bool.eq_iff_iff]
  simp only [beq_iff_eq, decide_eq_true_eq]
  constructor
  · intro h
    rw [ByteArray.toList_eq, ByteArray.toList_eq] at h
    cases a; cases b
    simp only [ByteArray.mk.injEq]
    exact Array.toList_inj.1 h
  · rintro rfl; rfl
theorem run_pureInt {P : Program} {w : World} {op : BinOp} {t : TypeId} {x y : Operand} {k : IntKind} {a b : Int} {r : Value} (h : pureInt op k a b = some r) :
    (binOp op t (.int k a) (.int k b)).run P w = .ok r w := by
  cases op <;> simp only [pureInt] at h <;> first | (cases h; done) | skip
  case quo | rem =>
    split at h
    · simp only [Option.some.injEq] at h; subst h; rename_i n; simp [binOp, Op.intDiv]; omega
    · cases h
  all_goals (simp only [Option.some.injEq] at h; subst h; simp [go_sem, binOp, Op.intArith, Op.intBits, Op.intCmp, bits]; try rfl)
theorem run_pureShift {P : Program} {w : World} {op : BinOp} {t : TypeId} {k k' : IntKind} {a b : Int} {r : Value} (h : pureShift op k a b = some r) :
    (binOp op t (.int k a) (.int k' b)).run P w = .ok r w := by
  unfold pureShift at h
  split at h
  · simp only [Option.some.injEq] at h; subst h
    simp [binOp, Op.shift]
    intro hh; omega
  · simp only [Option.some.injEq] at h; subst h
    simp only [binOp, Op.shift]
    rw [if_neg (by simp), Int.fdiv_eq_ediv_of_nonneg]
    · rfl
    · exact Int.le_of_lt (Int.pow_pos (by decide))
  · cases h
theorem run_pureBin {P : Program} {w : World} {op : BinOp} {t : TypeId} {x y : Operand} {u v r : Value} (h : pureBin op u v = some r) :
    (do eqGuard op t x y u v; binOp op t u v : Sem Value).run P w = .ok r w := by
  unfold pureBin at h
  split at h
  · rename_i k a k' b
    rw [eqGuard_at_int]
    simp only [Sem.run_bind, Sem.run_pure, Result.andThen_ok, pure_bind]
    cases hs : isShift op with
    | true => rw [hs] at h; exact run_pureShift h
    | false =>
      rw [hs] at h
      simp only [cond_false] at h
      split at h
      · rename_i hk; subst hk; exact run_pureInt (x := x) (y := y) h
      · cases h
  · rename_i a b
    rw [eqGuard_at_string]
    simp only [Sem.run_bind, Sem.run_pure, Result.andThen_ok, pure_bind]
    unfold pureStr at h
    split at h <;> first | cases h; done | skip
    all_goals (simp only [Option.some.injEq] at h; subst h; simp [binOp, Op.stringOp, byteArray_beq])
  · cases h
theorem run_equalIn_bool {P : Program} {t : TypeId} (h : P.underlying t = some .bool) (d : Nat) (a b : Bool) (w : World) : (Op.equalIn (d + 1) t (.bool a) (.bool b)).run P w = .ok (a == b) w := by
  simp [Op.equalIn, run_underlying h]
theorem run_eql_bool {P : Program} {t : TypeId} (h : P.underlying t = some .bool) (a b : Bool) (w : World) : (binOp .eql t (.bool a) (.bool b)).run P w = .ok (.bool (a == b)) w := by
  have := run_equalIn_bool h 9999 a b w
  unfold binOp Op.equal Op.maxDepth
  simp only [Sem.run_bind, this, Result.andThen_ok]
  rfl
theorem run_neq_bool {P : Program} {t : TypeId} (h : P.underlying t = some .bool) (a b : Bool) (w : World) : (binOp .neq t (.bool a) (.bool b)).run P w = .ok (.bool (!(a == b))) w := by
  have := run_equalIn_bool h 9999 a b w
  unfold binOp Op.equal Op.maxDepth
  simp only [Sem.run_bind, this, Result.andThen_ok]
  rfl
theorem run_pureOp {P : Program} {T : TyTab} (hT : TabOk P T) {N : Nt} {e : Env} {o : Oper} {v : Value} (h : pureOp T e o.op = some v) {a : Act} (ha : Fr N a e) (w : World) :
    (execOp a.eval o).run P w = .ok (.value v) w := by
  obtain ⟨dst, op, ty, pos, aft, gd⟩ := o
  simp only at h
  unfold pureOp at h
  split at h
  · have := ha.eval h; simp [execOp, this]
  · have := ha.eval h; simp [execOp, this]
  · rename_i c x y
    split at h
    · rename_i hc; have h1 := ha.eval hc; have h2 := ha.eval h; simp [execOp, h1, h2, asBool]
    · rename_i hc; have h1 := ha.eval hc; have h2 := ha.eval h; simp [execOp, h1, h2, asBool]
    · cases h
  · rename_i op t x y yt
    split at h
    · rename_i b1 b2 hx hy
      have h1 := ha.eval hx; have h2 := ha.eval hy
      split at h
      · rename_i ht
        simp only [Option.some.injEq] at h; subst h
        simp only [execOp, h1, h2, eqGuard_at_bool, pure_bind, Sem.run_bind, Sem.run_pure, Result.andThen_ok, run_eql_bool (hT.at ht)]
      · rename_i ht
        simp only [Option.some.injEq] at h; subst h
        simp only [execOp, h1, h2, eqGuard_at_bool, pure_bind, Sem.run_bind, Sem.run_pure, Result.andThen_ok, run_neq_bool (hT.at ht)]
      · cases h
    · rename_i u1 u2 _ hx hy
      have h1 := ha.eval hx; have h2 := ha.eval hy
      have := run_pureBin (P := P) (w := w) (t := t) (x := x) (y := y) h
      simp only [execOp, h1, h2]
      rw [Sem.run_bind, this]
      rfl
    · cases h
  · rename_i op t x
    split at h
    · rename_i b hx; have h1 := ha.eval hx; simp only [Option.some.injEq] at h; subst h; simp [execOp, h1, Op.unary]
    · rename_i b hx; have h1 := ha.eval hx; simp only [Option.some.injEq] at h; subst h; simp [execOp, h1, Op.unary, Op.intArith]
    · rename_i b hx; have h1 := ha.eval hx; simp only [Option.some.injEq] at h; subst h; simp only [execOp, h1, Op.unary, intBits_xor]; rfl
    · cases h
  · rename_i s d x
    split at h
    · rename_i hs hd hx; have h1 := ha.eval hx; simp only [Option.some.injEq] at h; subst h
      simp [execOp, h1, convert, run_underlying (hT.at hs), run_underlying (hT.at hd), Conv.intToInt]
    · cases h
  · rename_i x i
    split at h
    · rename_i vs hx; have h1 := ha.eval hx; simp [execOp, h1, Instr.extract, h]
    · cases h
  · rename_i x
    split at h
    · rename_i b hx; have h1 := ha.eval hx; simp only [Option.some.injEq] at h; subst h; simp [execOp, h1]
    · cases h
  · rename_i c
    obtain ⟨cal, args, ats⟩ := c
    simp only at h
    split at h
    · split at h
      · rename_i x t hx0 ht0
        split at h
        · rename_i s ht hx; have h1 := ha.eval hx; simp only [Option.some.injEq] at h; subst h
          simp [execOp, resolve, invoke, builtin, Builtin.len_, ht0, hx0, h1, run_underlying (hT.at ht), goInt]
        · rename_i A n c el ht hx; have h1 := ha.eval hx; simp only [Option.some.injEq] at h; subst h
          simp [execOp, resolve, invoke, builtin, Builtin.len_, ht0, hx0, h1, run_underlying (hT.at ht), goInt]
        · cases h
      · cases h
    · split at h
      · rename_i x t hx0 ht0
        split at h
        · rename_i el A m n ht hx; have h1 := ha.eval hx; simp only [Option.some.injEq] at h; subst h
          simp [execOp, resolve, invoke, builtin, Builtin.cap_, ht0, hx0, h1, run_underlying (hT.at ht), goInt]
        · cases h
      · cases h
    · cases h
  · cases h

section
variable {P : Program} {N : Nt} {e : Env} {Q : Exit → Act → World → Prop} {w : World} {T : TyTab}
theorem gl_pure {ops : Array Oper} {o : Oper} {rest : List Oper} {d : Nat} {v : Value} (hT : TabOk P T) (hd : o.dst = some d) (hg : o.guard = none) (hv : pureOp T e o.op = some v)
    (hN : Nat.ble (d + 1) N = true) (h : GL P N ops ((d, v) :: e) rest Q w) : GL P N ops e (o :: rest) Q w :=
  gl_step hd (Nat.le_of_ble_eq_true hN) hg (fun a ha => run_pureOp hT hv ha w) h
theorem gl_pass {ops : Array Oper} {o : Oper} {rest : List Oper} {d : Nat} (hd : o.dst = some d) {j t : Nat} {want b : Bool} (hg : o.guard = some (j, want))
    (hj : ((ops[j]?).bind (·.dst)) = some t) (hl : look e t = some (.bool b)) (hwant : b = !want)
    (hN : Nat.ble (d + 1) N = true) (h : GL P N ops ((d, undef) :: e) rest Q w) : GL P N ops e (o :: rest) Q w := by
  intro a ha
  refine wpList_step fun K hK => ?_
  have hw : Region.wanted o (yielded ops a.tmps) = false := by
    subst hwant
    cases want <;> simp [Region.wanted, hg, yielded_of hj ha hl]
  rw [if_neg (by rw [hw]; simp), hd]
  exact hK _ _ (h _ (ha.put (Nat.le_of_ble_eq_true hN) undef))
theorem gl_split {ops : Array Oper} {l : List Oper} {t : Nat} {b : Bool} (hb : look e t = some (.bool b))
    (h1 : b = true → GL P N ops ((t, .bool true) :: e) l Q w) (h2 : b = false → GL P N ops ((t, .bool false) :: e) l Q w) : GL P N ops e l Q w := by
  intro a ha
  cases b with
  | true => exact h1 rfl a (ha.spell hb rfl)
  | false => exact h2 rfl a (ha.spell hb rfl)
end
end Go.Proofs.YtnomlloaahoceaaDoor


/- Our own words: reading memory, ends of functions, regions that draw their order and only read. Nothing here speaks of a statement; no condition. -/
namespace Go.Proofs.YtnomlloaahoceaaDoor
open Go.RowKit
set_option linter.unusedVariables false
set_option linter.unusedSimpArgs false

/-! ### a world, some orders drawn -/
def World.dr (w : World) (n : Nat) : World := { w with drawn := n }
def Eqv (w w' : World) : Prop := ∃ n, w' = World.dr w n
theorem Eqv.refl (w : World) : Eqv w w := ⟨w.drawn, rfl⟩
theorem Eqv.trans {a b c : World} (h : Eqv a b) (k : Eqv b c) : Eqv a c := by
  obtain ⟨n, rfl⟩ := h; obtain ⟨m, rfl⟩ := k; exact ⟨m, rfl⟩
theorem Eqv.below {w w' : World} (h : Eqv w w') (B : Nat) : Below B w w' := by obtain ⟨n, rfl⟩ := h; exact ⟨rfl, rfl, rfl, Nat.le_refl _, fun _ _ => rfl⟩
theorem Eqv.drew (w : World) : Eqv w { w with drawn := w.drawn + 1 } := ⟨_, rfl⟩

/-! ### ends -/
theorem x_then_ret (K : Act → World → Prop) (Q : Exit → Act → World → Prop) : Exit.then K Q .ret = Q .ret := rfl
theorem x_then_exit (K : Act → World → Prop) (Q : Exit → Act → World → Prop) (i : Nat) : Exit.then K Q (.exit i) = Q (.exit i) := rfl
theorem x_block_ret (i : Nat) (Q : Exit → Act → World → Prop) : Exit.inBlock i Q .ret = Q .ret := rfl
theorem x_block_exit (i j : Nat) (Q : Exit → Act → World → Prop) : Exit.inBlock i Q (.exit j) = if j = i then Q .normal else Q (.exit j) := by
  funext a w; show (if j = i then _ else _) = _; split <;> rfl
section
variable {P : Program} {N : Nt} {e : Env} {Q : Exit → Act → World → Prop} {w : World} {T : TyTab}
theorem getD_of {a : Act} (ha : Fr N a e) {t : Nat} {v : Value} (h : look e t = some v) : a.tmps.getD t undef = v := by
  have := ha.get t v h
  simp [Array.getD_eq_getD_getElem?, this]
theorem gk_ret1 {fn : Func} {R : Ending → World → Prop} {t : Nat} {v : Value} (hr : fn.results = #[.tmp t]) (hv : look e t = some v) (h : R (.returned v) w) (hds : N.ds = [] := by rfl) : GK N e (bodyPost P fn R .ret) w := fun a ha =>
  ⟨ha.defers.trans hds, v, by rw [results_tmp hr, getD_of ha hv], h⟩
theorem gk_end0 {fn : Func} {R : Ending → World → Prop} (hr : fn.results = #[]) (h : R (.returned (.tuple #[])) w) (hds : N.ds = [] := by rfl) : GK N e (bodyPost P fn R .normal) w := fun a ha =>
  ⟨ha.defers.trans hds, _, results_none hr _ _ _, h⟩
theorem gk_ret2 {fn : Func} {R : Ending → World → Prop} {t1 t2 : Nat} {v1 v2 : Value} (hr : fn.results = #[.tmp t1, .tmp t2]) (h1 : look e t1 = some v1) (h2 : look e t2 = some v2)
    (h : R (.returned (.tuple #[v1, v2])) w) (hds : N.ds = [] := by rfl) : GK N e (bodyPost P fn R .ret) w := fun a ha =>
  ⟨ha.defers.trans hds, _, by rw [results_tmp2 hr, getD_of ha h1, getD_of ha h2], h⟩
theorem gk_ret3 {fn : Func} {R : Ending → World → Prop} {t1 t2 t3 : Nat} {v1 v2 v3 : Value} (hr : fn.results = #[.tmp t1, .tmp t2, .tmp t3]) (h1 : look e t1 = some v1) (h2 : look e t2 = some v2)
    (h3 : look e t3 = some v3) (h : R (.returned (.tuple #[v1, v2, v3])) w) (hds : N.ds = [] := by rfl) : GK N e (bodyPost P fn R .ret) w := fun a ha =>
  ⟨ha.defers.trans hds, .tuple #[v1, v2, v3], by simp [results, hr, ha.get _ _ h1, ha.get _ _ h2, ha.get _ _ h3], h⟩
/-! ### operations that leave the world alone -/
def OpR (P : Program) (N : Nt) (e : Env) (w : World) (o : Oper) (v : Value) : Prop := ∀ n a, Fr N a e → (execOp a.eval o).run P (World.dr w n) = .ok (.value v) (World.dr w n)
theorem op_pure {o : Oper} {v : Value} (hT : TabOk P T) (hv : pureOp T e o.op = some v) : OpR P N e w o v := fun n a ha => run_pureOp hT hv ha _
theorem gl_op {ops : Array Oper} {o : Oper} {rest : List Oper} {d : Nat} {v : Value} (hd : o.dst = some d) (hg : o.guard = none) (hN : Nat.ble (d + 1) N = true) (hr : OpR P N e w o v)
    (h : GL P N ops ((d, v) :: e) rest Q w) : GL P N ops e (o :: rest) Q w :=
  gl_step hd (Nat.le_of_ble_eq_true hN) hg (fun a ha => hr w.drawn a ha) h
/-! ### slices that are read -/
def Rd (w : World) (ok : Nat → Prop) (A : Option Addr) (n sz : Nat) (cs : List Value) : Prop :=
  cs.length = n * sz ∧ (0 < n → ∃ ad, A = some ad ∧ ok ad.block ∧ ∀ j u, cs[j]? = some u → w.cell? (ad.add j) = some u)
def All : Nat → Prop := fun _ => True
theorem op_indexAddr {o : Oper} {t : TypeId} {x i : Operand} {el : TypeId} {A : Option Addr} {ad : Addr} {n c : Nat} {k : IntKind} {m : Int} {sz : Nat} (hT : TabOk P T) (ho : o.op = .indexAddr t x i) (ht : tlook T t = some (.slice el))
    (hsz : P.cellsOf el = sz) (hsome : (P.info? el).isSome = true) (hx : evO e x = some (.slice A n c)) (hi : evO e i = some (.int k m)) (h0 : 0 ≤ m) (h1 : m < n) (hA : A = some ad) : OpR P N e w o (.pointer (some (ad.add (m.toNat * sz)))) := by
  intro q a ha
  have e1 := ha.eval hx; have e2 := ha.eval hi
  subst hA
  have hs : (sizeOf el).run P (World.dr w q) = .ok sz (World.dr w q) := by
    obtain ⟨inf, hinf⟩ := Option.isSome_iff_exists.1 hsome
    have : inf.size = sz := by rw [← hsz]; simp [Program.cellsOf, hinf]
    simp [sizeOf, typeInfo, hinf, this]
  simp only [execOp, ho, e1, e2, Instr.indexAt, asIntOf]
  simp only [Sem.run_bind, Sem.run_pure, Result.andThen_ok, run_underlying (hT.at ht), pure_bind]
  simp [h0, h1, hs]
def isAggD : TypeDesc → Bool | .struct _ | .array _ _ => true | _ => false
theorem run_isAgg {t : TypeId} {d : TypeDesc} (ht : P.underlying t = some d) (w : World) : (isAgg t).run P w = .ok (isAggD d) w := by
  simp only [isAgg, Sem.run_bind, run_underlying ht, Result.andThen_ok]
  cases d <;> rfl
theorem op_load {o : Oper} {t : TypeId} {x : Operand} {p : Addr} {v : Value} {d : TypeDesc} (hT : TabOk P T) (ho : o.op = .load t x) (ht : tlook T t = some d) (hd : isAggD d = false)
    (hx : evO e x = some (.pointer (some p))) (hc : w.cell? p = some v) : OpR P N e w o v := by
  intro q a ha
  have e1 := ha.eval hx
  have hc' : (World.dr w q).cell? p = some v := hc
  simp only [execOp, ho, e1, Instr.loadAt, Instr.sureAddr, loadVar, Sem.run_bind, Sem.run_pure, Result.andThen_ok, pure_bind, run_isAgg (hT.at ht), hd]
  simp [load, Sem.run, hc']

/-! ### regions that draw their order and only read -/
def evArgs (e : Env) : List Operand → Option (List Value)
  | [] => some []
  | x :: r => match evO e x, evArgs e r with
    | some v, some l => some (v :: l)
    | _, _ => none
theorem evArgs_map {a : Act} (ha : Fr N a e) : ∀ {l : List Operand} {vs : List Value}, evArgs e l = some vs → l.map a.eval = vs
  | [], vs, h => by simp [evArgs] at h; simp [h]
  | x :: r, vs, h => by
    unfold evArgs at h
    split at h
    · rename_i v l hx hr
      simp only [Option.some.injEq] at h
      subst h
      simp [ha.eval hx, evArgs_map ha hr]
    · cases h
theorem run_callOp {o : Oper} {f : FuncId} {xs : List Operand} {ts : Array TypeId} {vs : List Value} {fn : Func} {c : Code} (ho : o.op = .call { callee := .value (.func f), args := ⟨xs⟩, argTypes := ts })
    (hf : P.funcs[f]? = some fn) (hb : fn.body = some c) (hname : (fn.name == "runtime.NumGoroutine") = false) (hx : evArgs e xs = some vs) {a : Act} (ha : Fr N a e) (w : World) :
    (execOp a.eval o).run P w = .ok (.enter f ⟨vs⟩) w := by
  have h1 := evArgs_map ha hx
  simp only [execOp, ho, resolve, invoke, Deferred.ofValue, Act.eval, callFunc, Sem.run_bind, Sem.run_pure, Result.andThen_ok, pure_bind]
  have hp : (program).run P w = .ok P w := rfl
  simp [hp, hf, hb, h1]
  simpa using hname
theorem gl_callf {ops : Array Oper} {o : Oper} {rest : List Oper} {d : Nat} {f : FuncId} {xs : List Operand} {ts : Array TypeId} {vs : List Value} {fn : Func} {c : Code} {R : Ending → World → Prop}
    (hd : o.dst = some d) (hg : o.guard = none) (hN : Nat.ble (d + 1) N = true) (ho : o.op = .call { callee := .value (.func f), args := ⟨xs⟩, argTypes := ts })
    (hf : P.funcs[f]? = some fn) (hb : fn.body = some c) (hname : (fn.name == "runtime.NumGoroutine") = false) (hx : evArgs e xs = some vs) (hc : Calls P f ⟨vs⟩ w R)
    (h : ∀ en w', R en w' → ∃ v, en = .returned v ∧ GL P N ops ((d, v) :: e) rest Q w') : GL P N ops e (o :: rest) Q w :=
  gl_call hd (Nat.le_of_ble_eq_true hN) hg (fun a ha => run_callOp ho hf hb hname hx ha w) hc h
/-! ### typed reading -/
def RdE {α : Type} (w : World) (ok : Nat → Prop) (enc : α → Value) (A : Option Addr) (l : List α) : Prop := Rd w ok A l.length 1 (l.map enc)
theorem RdE.at {α : Type} {ok : Nat → Prop} {enc : α → Value} {A : Option Addr} {l : List α} (h : RdE w ok enc A l) (z : α) {i : Int} (h0 : 0 ≤ i) (h1 : i < l.length) :
    ∃ ad, A = some ad ∧ w.cell? (ad.add (i.toNat * 1)) = some (enc (l.getD i.toNat z)) := by
  obtain ⟨ad, hA, _, hc⟩ := h.2 (by omega)
  refine ⟨ad, hA, hc _ _ ?_⟩
  have hlt : i.toNat < l.length := by omega
  simp [List.getD_eq_getElem?_getD, hlt]
theorem gl_ix {α : Type} {ops : Array Oper} {o : Oper} {rest : List Oper} {d : Nat} {t : TypeId} {x i : Operand} {el : TypeId} {A : Option Addr} {n c : Nat} {k : IntKind} {m : Int} {ok : Nat → Prop} {enc : α → Value} {l : List α} (z : α)
    (hT : TabOk P T) (hrd : RdE w ok enc A l) (hd : o.dst = some d) (hg : o.guard = none) (hN : Nat.ble (d + 1) N = true) (ho : o.op = .indexAddr t x i) (ht : tlook T t = some (.slice el))
    (hsz : P.cellsOf el = 1) (hsome : (P.info? el).isSome = true) (hx : evO e x = some (.slice A n c)) (hn : n = l.length) (hi : evO e i = some (.int k m)) (h0 : 0 ≤ m) (h1 : m < l.length)
    (h : ∀ p, w.cell? p = some (enc (l.getD m.toNat z)) → GL P N ops ((d, .pointer (some p)) :: e) rest Q w) : GL P N ops e (o :: rest) Q w := by
  subst hn
  obtain ⟨ad, hA, hc⟩ := hrd.at z h0 h1
  exact gl_op hd hg hN (op_indexAddr hT ho ht hsz hsome hx hi h0 h1 hA) (h _ hc)
/-! ### sums that fit -/
theorem wrap_i64 {n : Int} (h : -9223372036854775808 ≤ n ∧ n ≤ 9223372036854775807) : IntKind.i64.wrap n = n := by
  rw [IntKind.wrap_i64]; omega
theorem gl_fit {ops : Array Oper} {o : Oper} {rest : List Oper} {d : Nat} {n : Int} (hT : TabOk P T) (hd : o.dst = some d) (hg : o.guard = none) (hv : pureOp T e o.op = some (.int .i64 (IntKind.i64.wrap n)))
    (hN : Nat.ble (d + 1) N = true) (hb : -9223372036854775808 ≤ n ∧ n ≤ 9223372036854775807) (h : GL P N ops ((d, .int .i64 n) :: e) rest Q w) : GL P N ops e (o :: rest) Q w := by
  refine gl_pure hT hd hg (hv.trans (by rw [wrap_i64 hb])) hN h
theorem op_quo {o : Oper} {x y : Int} (hT : TabOk P T) (hv : pureOp T e o.op = some (.int .i64 (IntKind.i64.wrap (x.tdiv y)))) (h0 : 0 ≤ x ∧ x ≤ 9223372036854775807) (hy : 1 ≤ y) : OpR P N e w o (.int .i64 (x / y)) := by
  refine op_pure hT (hv.trans ?_)
  rw [Int.tdiv_eq_ediv_of_nonneg h0.1, wrap_i64]
  have h1 : 0 ≤ x / y := Int.ediv_nonneg h0.1 (by omega)
  have h2 : x / y ≤ x := Int.ediv_le_self y h0.1
  omega
theorem op_rem {o : Oper} {k : IntKind} {x y : Int} (hT : TabOk P T) (hv : pureOp T e o.op = some (.int k (x.tmod y))) (h0 : 0 ≤ x) : OpR P N e w o (.int k (x % y)) := by
  refine op_pure hT (hv.trans ?_)
  rw [Int.tmod_eq_emod_of_nonneg h0]
theorem op_shl {o : Oper} {t yt : TypeId} {x y : Operand} {k k2 : IntKind} {m n : Int} (ho : o.op = .binOp .shl t x y yt) (hx : evO e x = some (.int k m)) (hy : evO e y = some (.int k2 n)) (h0 : 0 ≤ n) (h1 : n ≤ k.bits) : OpR P N e w o (.int k (k.wrap (m * 2 ^ n.toNat))) := by
  intro q a ha
  simp only [execOp, ho, ha.eval hx, ha.eval hy, eqGuard_at_int, binOp_shl, shift_shl k k2 m n h0 h1]
  rfl
theorem op_shr {o : Oper} {t yt : TypeId} {x y : Operand} {k k2 : IntKind} {m n : Int} (ho : o.op = .binOp .shr t x y yt) (hx : evO e x = some (.int k m)) (hy : evO e y = some (.int k2 n)) (h0 : 0 ≤ n) (h1 : n ≤ k.bits) : OpR P N e w o (.int k (m / 2 ^ n.toNat)) := by
  intro q a ha
  simp only [execOp, ho, ha.eval hx, ha.eval hy, eqGuard_at_int, binOp_shr, shift_shr k k2 m n h0 h1]
  rfl
theorem gl_spell {ops : Array Oper} {l : List Oper} (t : Nat) {u v : Value} (hu : look e t = some u) (huv : u = v) (h : GL P N ops ((t, v) :: e) l Q w) : GL P N ops e l Q w :=
  fun a ha => h a (ha.spell hu huv)
theorem gc_of {c : Code} {a : Act} (ha : Fr N a e) (h : GC P N e c Q w) : c.wp P Q a w := h a ha
end
end Go.Proofs.YtnomlloaahoceaaDoor

