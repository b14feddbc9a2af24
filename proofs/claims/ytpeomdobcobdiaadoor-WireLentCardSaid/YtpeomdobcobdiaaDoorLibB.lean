/- Our own words: operations that only reckon with what the slots hold, told by a function, and the steps through them. Nothing here speaks of a statement; no condition. -/
import Derived.Test.YtpeomdobcobdiaaDoorLibA
namespace Go.Proofs.YtpeomdobcobdiaaDoor
open Go.RowKit
set_option linter.unusedVariables false
set_option linter.unusedSimpArgs false

abbrev TyTab := List (Nat × TypeDesc)
def tlook : TyTab → Nat → Option TypeDesc
  | [], _ => none
  | (k, v) :: r, t => bif Nat.beq k t then some v else tlook r t
def TabOk (P : Program) : TyTab → Prop
  | [] => True
  | (k, d) :: r => P.underlying k = some d ∧ TabOk P r
theorem TabOk.at {P : Program} {T : TyTab} (h : TabOk P T) {t : Nat} {d : TypeDesc} (hl : tlook T t = some d) : P.underlying t = some d := by
  induction T with
  | nil => simp [tlook] at hl
  | cons p r ih =>
    obtain ⟨k, u⟩ := p
    unfold tlook at hl
    by_cases hk : k = t
    · subst hk
      simp at hl
      subst hl
      exact h.1
    · have : Nat.beq k t = false := by
        rw [Bool.eq_false_iff]; exact fun hb => hk (Nat.eq_of_beq_eq_true hb)
      rw [this] at hl
      exact ih h.2 (by simpa using hl)

def pureInt (op : BinOp) (k : IntKind) (a b : Int) : Option Value :=
  match op with
  | .add => some (.int k (k.wrap (a + b)))
  | .sub => some (.int k (k.wrap (a - b)))
  | .mul => some (.int k (k.wrap (a * b)))
  | .quo => match b with | .ofNat (_ + 1) => some (.int k (k.wrap (a.tdiv b))) | _ => none
  | .rem => match b with | .ofNat (_ + 1) => some (.int k (a.tmod b)) | _ => none
  | .and => some (.int k (bits .and k a b))
  | .or => some (.int k (bits .or k a b))
  | .xor => some (.int k (bits .xor k a b))
  | .andNot => some (.int k (bits .andNot k a b))
  | .eql => some (.bool (decide (a = b)))
  | .neq => some (.bool (!decide (a = b)))
  | .lss => some (.bool (decide (a < b)))
  | .leq => some (.bool (decide (a ≤ b)))
  | .gtr => some (.bool (decide (b < a)))
  | .geq => some (.bool (decide (b ≤ a)))
  | _ => none
def pureShift (op : BinOp) (k : IntKind) (a b : Int) : Option Value :=
  match op, b with
  | .shl, .ofNat n => some (.int k (k.wrap (a * 2 ^ (min n k.bits))))
  | .shr, .ofNat n => some (.int k (a / 2 ^ (min n k.bits)))
  | _, _ => none
def isShift : BinOp → Bool | .shl | .shr => true | _ => false
def pureStr (op : BinOp) (a b : ByteArray) : Option Value :=
  match op with
  | .eql => some (.bool (decide (a = b)))
  | .neq => some (.bool (!decide (a = b)))
  | _ => none
def pureBin (op : BinOp) (x y : Value) : Option Value :=
  match x, y with
  | .int k a, .int k' b => bif isShift op then pureShift op k a b else if k = k' then pureInt op k a b else none
  | .string a, .string b => pureStr op a b
  | _, _ => none

def pureOp (T : TyTab) (e : Env) (op : Op) : Option Value :=
  match op with
  | .move x | .assign x => evO e x
  | .pick c a b => match evO e c with
    | some (.bool true) => evO e a
    | some (.bool false) => evO e b
    | _ => none
  | .binOp op t x y _ => match evO e x, evO e y with
    | some (.bool a), some (.bool b) => match tlook T t, op with
      | some .bool, .eql => some (.bool (a == b))
      | some .bool, .neq => some (.bool (!(a == b)))
      | _, _ => none
    | some u, some v => pureBin op u v
    | _, _ => none
  | .unOp op _ x => match op, evO e x with
    | .not, some (.bool b) => some (.bool (!b))
    | .neg, some (.int k n) => some (.int k (k.wrap (0 - n)))
    | .xor, some (.int k n) => some (.int k (bits .xor k (if k.signed then -1 else k.max) n))
    | _, _ => none
  | .convert s d x => match tlook T s, tlook T d, evO e x with
    | some _, some (.int k), some (.int _ n) => some (.int k (k.wrap n))
    | _, _, _ => none
  | .extract x i => match evO e x with
    | some (.tuple vs) => vs[i]?
    | _ => none
  | .nilCheck x => match evO e x with
    | some (.pointer (some a)) => some (.pointer (some a))
    | _ => none
  | .call c => match c.callee with
    | .builtin .len => match c.args[0]?, c.argTypes[0]? with
      | some x, some t => match tlook T t, evO e x with
        | some .string, some (.string s) => some (.int .i64 s.size)
        | some (.slice _), some (.slice _ n _) => some (.int .i64 n)
        | _, _ => none
      | _, _ => none
    | .builtin .cap => match c.args[0]?, c.argTypes[0]? with
      | some x, some t => match tlook T t, evO e x with
        | some (.slice _), some (.slice _ _ n) => some (.int .i64 n)
        | _, _ => none
      | _, _ => none
    | _ => none
  | _ => none

theorem byteArray_beq (a b : ByteArray) : (a.toList == b.toList) = decide (a = b) := by
  rw [Bool.eq_iff_iff]
  simp only [beq_iff_eq, decide_eq_true_eq]
  constructor
  · intro h
    rw [ByteArray.toList_eq, ByteArray.toList_eq] at h
    cases a; cases b
    simp only [ByteArray.mk.injEq]
    exact Array.toList_inj.1 h
  · rintro rfl; rfl
theorem run_pureInt {P : Program} {w : World} {op : BinOp} {t : TypeId} {x y : Operand} {k : IntKind} {a b : Int} {r : Value} (h : pureInt op k a b = some r) :
    (binOp op t (.int k a) (.int k b)).run P w = .ok r w := by
  cases op <;> simp only [pureInt] at h <;> first | (cases h; done) | skip
  case quo | rem =>
    split at h
    · simp only [Option.some.injEq] at h; subst h; rename_i n; simp [binOp, Op.intDiv]; omega
    · cases h
  all_goals (simp only [Option.some.injEq] at h; subst h; simp [go_sem, binOp, Op.intArith, Op.intBits, Op.intCmp, bits]; try rfl)
theorem run_pureShift {P : Program} {w : World} {op : BinOp} {t : TypeId} {k k' : IntKind} {a b : Int} {r : Value} (h : pureShift op k a b = some r) :
    (binOp op t (.int k a) (.int k' b)).run P w = .ok r w := by
  unfold pureShift at h
  split at h
  · simp only [Option.some.injEq] at h; subst h
    simp [binOp, Op.shift]
    intro hh; omega
  · simp only [Option.some.injEq] at h; subst h
    simp only [binOp, Op.shift]
    rw [if_neg (by simp), Int.fdiv_eq_ediv_of_nonneg]
    · rfl
    · exact Int.le_of_lt (Int.pow_pos (by decide))
  · cases h
theorem run_pureBin {P : Program} {w : World} {op : BinOp} {t : TypeId} {x y : Operand} {u v r : Value} (h : pureBin op u v = some r) :
    (do eqGuard op t x y u v; binOp op t u v : Sem Value).run P w = .ok r w := by
  unfold pureBin at h
  split at h
  · rename_i k a k' b
    rw [eqGuard_at_int]
    simp only [Sem.run_bind, Sem.run_pure, Result.andThen_ok, pure_bind]
    cases hs : isShift op with
    | true => rw [hs] at h; exact run_pureShift h
    | false =>
      rw [hs] at h
      simp only [cond_false] at h
      split at h
      · rename_i hk; subst hk; exact run_pureInt (x := x) (y := y) h
      · cases h
  · rename_i a b
    rw [eqGuard_at_string]
    simp only [Sem.run_bind, Sem.run_pure, Result.andThen_ok, pure_bind]
    unfold pureStr at h
    split at h <;> first | cases h; done | skip
    all_goals (simp only [Option.some.injEq] at h; subst h; simp [binOp, Op.stringOp, byteArray_beq])
  · cases h
theorem run_equalIn_bool {P : Program} {t : TypeId} (h : P.underlying t = some .bool) (d : Nat) (a b : Bool) (w : World) : (Op.equalIn (d + 1) t (.bool a) (.bool b)).run P w = .ok (a == b) w := by
  simp [Op.equalIn, run_underlying h]
theorem run_eql_bool {P : Program} {t : TypeId} (h : P.underlying t = some .bool) (a b : Bool) (w : World) : (binOp .eql t (.bool a) (.bool b)).run P w = .ok (.bool (a == b)) w := by
  have := run_equalIn_bool h 9999 a b w
  unfold binOp Op.equal Op.maxDepth
  simp only [Sem.run_bind, this, Result.andThen_ok]
  rfl
theorem run_neq_bool {P : Program} {t : TypeId} (h : P.underlying t = some .bool) (a b : Bool) (w : World) : (binOp .neq t (.bool a) (.bool b)).run P w = .ok (.bool (!(a == b))) w := by
  have := run_equalIn_bool h 9999 a b w
  unfold binOp Op.equal Op.maxDepth
  simp only [Sem.run_bind, this, Result.andThen_ok]
  rfl
theorem run_pureOp {P : Program} {T : TyTab} (hT : TabOk P T) {N : Nat} {e : Env} {o : Oper} {v : Value} (h : pureOp T e o.op = some v) {a : Act} (ha : Fr N a e) (w : World) :
    (execOp a.eval o).run P w = .ok (.value v) w := by
  obtain ⟨dst, op, ty, pos, aft, gd⟩ := o
  simp only at h
  unfold pureOp at h
  split at h
  · have := ha.eval h; simp [execOp, this]
  · have := ha.eval h; simp [execOp, this]
  · rename_i c x y
    split at h
    · rename_i hc; have h1 := ha.eval hc; have h2 := ha.eval h; simp [execOp, h1, h2, asBool]
    · rename_i hc; have h1 := ha.eval hc; have h2 := ha.eval h; simp [execOp, h1, h2, asBool]
    · cases h
  · rename_i op t x y yt
    split at h
    · rename_i b1 b2 hx hy
      have h1 := ha.eval hx; have h2 := ha.eval hy
      split at h
      · rename_i ht
        simp only [Option.some.injEq] at h; subst h
        simp only [execOp, h1, h2, eqGuard_at_bool, pure_bind, Sem.run_bind, Sem.run_pure, Result.andThen_ok, run_eql_bool (hT.at ht)]
      · rename_i ht
        simp only [Option.some.injEq] at h; subst h
        simp only [execOp, h1, h2, eqGuard_at_bool, pure_bind, Sem.run_bind, Sem.run_pure, Result.andThen_ok, run_neq_bool (hT.at ht)]
      · cases h
    · rename_i u1 u2 _ hx hy
      have h1 := ha.eval hx; have h2 := ha.eval hy
      have := run_pureBin (P := P) (w := w) (t := t) (x := x) (y := y) h
      simp only [execOp, h1, h2]
      rw [Sem.run_bind, this]
      rfl
    · cases h
  · rename_i op t x
    split at h
    · rename_i b hx; have h1 := ha.eval hx; simp only [Option.some.injEq] at h; subst h; simp [execOp, h1, Op.unary]
    · rename_i b hx; have h1 := ha.eval hx; simp only [Option.some.injEq] at h; subst h; simp [execOp, h1, Op.unary, Op.intArith]
    · rename_i b hx; have h1 := ha.eval hx; simp only [Option.some.injEq] at h; subst h; simp only [execOp, h1, Op.unary, intBits_xor]; rfl
    · cases h
  · rename_i s d x
    split at h
    · rename_i hs hd hx; have h1 := ha.eval hx; simp only [Option.some.injEq] at h; subst h
      simp [execOp, h1, convert, run_underlying (hT.at hs), run_underlying (hT.at hd), Conv.intToInt]
    · cases h
  · rename_i x i
    split at h
    · rename_i vs hx; have h1 := ha.eval hx; simp [execOp, h1, Instr.extract, h]
    · cases h
  · rename_i x
    split at h
    · rename_i b hx; have h1 := ha.eval hx; simp only [Option.some.injEq] at h; subst h; simp [execOp, h1]
    · cases h
  · rename_i c
    obtain ⟨cal, args, ats⟩ := c
    simp only at h
    split at h
    · split at h
      · rename_i x t hx0 ht0
        split at h
        · rename_i s ht hx; have h1 := ha.eval hx; simp only [Option.some.injEq] at h; subst h
          simp [execOp, resolve, invoke, builtin, Builtin.len_, ht0, hx0, h1, run_underlying (hT.at ht), goInt]
        · rename_i A n c el ht hx; have h1 := ha.eval hx; simp only [Option.some.injEq] at h; subst h
          simp [execOp, resolve, invoke, builtin, Builtin.len_, ht0, hx0, h1, run_underlying (hT.at ht), goInt]
        · cases h
      · cases h
    · split at h
      · rename_i x t hx0 ht0
        split at h
        · rename_i el A m n ht hx; have h1 := ha.eval hx; simp only [Option.some.injEq] at h; subst h
          simp [execOp, resolve, invoke, builtin, Builtin.cap_, ht0, hx0, h1, run_underlying (hT.at ht), goInt]
        · cases h
      · cases h
    · cases h
  · cases h

section
variable {P : Program} {N : Nat} {e : Env} {Q : Exit → Act → World → Prop} {w : World} {T : TyTab}
theorem gl_pure {ops : Array Oper} {o : Oper} {rest : List Oper} {d : Nat} {v : Value} (hT : TabOk P T) (hd : o.dst = some d) (hg : o.guard = none) (hv : pureOp T e o.op = some v)
    (hN : Nat.ble (d + 1) N = true) (h : GL P N ops ((d, v) :: e) rest Q w) : GL P N ops e (o :: rest) Q w :=
  gl_step hd (Nat.le_of_ble_eq_true hN) hg (fun a ha => run_pureOp hT hv ha w) h
theorem gl_pure_at {ops : Array Oper} {o : Oper} {rest : List Oper} {d : Nat} {v : Value} (hT : TabOk P T) (hd : o.dst = some d) {j t : Nat} {want b : Bool} (hg : o.guard = some (j, want))
    (hj : ((ops[j]?).bind (·.dst)) = some t) (hl : look e t = some (.bool b)) (hwant : b = want) (hv : pureOp T e o.op = some v)
    (hN : Nat.ble (d + 1) N = true) (h : GL P N ops ((d, v) :: e) rest Q w) : GL P N ops e (o :: rest) Q w := by
  intro a ha
  refine wpList_step fun K hK => ?_
  have hw : Region.wanted o (yielded ops a.tmps) = true := by
    simp [Region.wanted, hg, yielded_of hj ha hl, hwant]
  rw [if_pos hw]
  unfold Oper.wp
  rw [run_pureOp hT hv ha w]
  show K (a.put o.dst v) w
  rw [hd]
  exact hK _ _ (h _ (ha.put (Nat.le_of_ble_eq_true hN) v))
/-- An operation whose guard says no. -/
theorem gl_pass {ops : Array Oper} {o : Oper} {rest : List Oper} {d : Nat} (hd : o.dst = some d) {j t : Nat} {want b : Bool} (hg : o.guard = some (j, want))
    (hj : ((ops[j]?).bind (·.dst)) = some t) (hl : look e t = some (.bool b)) (hwant : b = !want)
    (hN : Nat.ble (d + 1) N = true) (h : GL P N ops ((d, undef) :: e) rest Q w) : GL P N ops e (o :: rest) Q w := by
  intro a ha
  refine wpList_step fun K hK => ?_
  have hw : Region.wanted o (yielded ops a.tmps) = false := by
    subst hwant
    cases want <;> simp [Region.wanted, hg, yielded_of hj ha hl]
  rw [if_neg (by rw [hw]; simp), hd]
  exact hK _ _ (h _ (ha.put (Nat.le_of_ble_eq_true hN) undef))
/-- A slot's bool, both ways. -/
theorem gl_split {ops : Array Oper} {l : List Oper} {t : Nat} {b : Bool} (hb : look e t = some (.bool b))
    (h1 : b = true → GL P N ops ((t, .bool true) :: e) l Q w) (h2 : b = false → GL P N ops ((t, .bool false) :: e) l Q w) : GL P N ops e l Q w := by
  intro a ha
  cases b with
  | true => exact h1 rfl a (ha.spell hb rfl)
  | false => exact h2 rfl a (ha.spell hb rfl)
end
end Go.Proofs.YtpeomdobcobdiaaDoor
