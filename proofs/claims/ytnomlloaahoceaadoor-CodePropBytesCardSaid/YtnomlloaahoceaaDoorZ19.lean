/- Contracts of functions that CodePropBytes reaches, and words to say them. No condition. -/
import Derived.Test.YtnomlloaahoceaaDoorZ14
/- Contracts of package ambitref8: a reader that goes on when it has failed. No condition. -/
namespace Go.Proofs.YtnomlloaahoceaaDoor
open Go.RowKit
set_option linter.unusedVariables false
set_option linter.unusedSimpArgs false
structure RS where
  a : Int
  e : Int
  i : Int
def RS.fl (s : RS) (x at_ : Int) : RS := if s.e = 0 ∧ x ≠ 0 then ⟨s.a, x, at_⟩ else s
@[reducible] def rsC (A : Option Addr) (n c : Nat) (s : RS) : List Value := [.slice A n c, .int .i64 s.a, .int .i64 s.e, .int .i64 s.i]
def rsU (l : List UInt8) (s : RS) : Int × RS := if s.e ≠ 0 then (0, s) else ((readUV l s.a).1, ⟨(readUV l s.a).2.1, (s.fl (readUV l s.a).2.2 s.a).e, (s.fl (readUV l s.a).2.2 s.a).i⟩)
def rsB (l : List UInt8) (lo hi : Int) (s : RS) : Int × RS := ((rsU l s).1, if (rsU l s).2.e = 0 ∧ ((rsU l s).1 < lo ∨ hi < (rsU l s).1) then (rsU l s).2.fl 65 s.a else (rsU l s).2)
def rsF1 (l : List UInt8) (s : RS) : Nat × RS := ((readFloatV l s.a).1, ⟨(readFloatV l s.a).2.1, (s.fl (readFloatV l s.a).2.2 s.a).e, (s.fl (readFloatV l s.a).2.2 s.a).i⟩)
def rsFs (l : List UInt8) : Nat → RS → List Nat × RS
  | 0, s => ([], s)
  | n + 1, s => if s.e ≠ 0 then ([], s) else ((rsF1 l s).1 :: (rsFs l n (rsF1 l s).2).1, (rsFs l n (rsF1 l s).2).2)
theorem rsFs_dead {l : List UInt8} {n : Nat} {s : RS} (h : s.e ≠ 0) : rsFs l n s = ([], s) := by
  cases n with
  | zero => rfl
  | succ n => unfold rsFs; rw [if_pos h]
theorem rsFs_succ {l : List UInt8} {n : Nat} {s : RS} (h : ¬ s.e ≠ 0) : rsFs l (n + 1) s = ((rsF1 l s).1 :: (rsFs l n (rsF1 l s).2).1, (rsFs l n (rsF1 l s).2).2) := if_neg h
theorem rsFs_snoc {l : List UInt8} : ∀ {n : Nat} {s : RS} {us : List Nat} {s1 : RS} (k : Nat), rsFs l n s = (us, s1) → rsFs l (n + k) s = (us ++ (rsFs l k s1).1, (rsFs l k s1).2)
  | 0, s, us, s1, k, h => by
    obtain ⟨rfl, rfl⟩ := Prod.mk.inj h
    rw [Nat.zero_add]
    rfl
  | n + 1, s, us, s1, k, h => by
    by_cases he : s.e ≠ 0
    · rw [rsFs_dead he] at h ⊢
      obtain ⟨rfl, rfl⟩ := Prod.mk.inj h
      rw [rsFs_dead he]
      rfl
    · rw [show n + 1 + k = (n + k) + 1 by omega, rsFs_succ he]
      rw [rsFs_succ he] at h
      obtain ⟨rfl, rfl⟩ := Prod.mk.inj h
      have h2 := rsFs_snoc (l := l) (n := n) (s := (rsF1 l s).2) k rfl
      rw [h2]
      rfl
theorem op_cat {P : Program} {N : Nt} {e : Env} {w : World} {o : Oper} {t yt : TypeId} {x y : Operand} {a b : ByteArray} (ho : o.op = .binOp .add t x y yt) (hx : evO e x = some (.string a)) (hy : evO e y = some (.string b)) (hz : a.size + b.size ≤ 9223372036854775807) : OpR P N e w o (.string (a ++ b)) := by
  intro q c ha
  have hz : (a.size : Int) + b.size ≤ 9223372036854775807 := by omega
  simp [hz, execOp, ho, ha.eval hx, ha.eval hy, eqGuard, binOp, Op.stringOp, Sem.run_bind, Sem.run_pure]
theorem strB_append (a b : List UInt8) : strB a ++ strB b = strB (a ++ b) := by
  apply ByteArray.ext
  simp [strB]
theorem rF_at (l : List UInt8) (at_ : Int) : 0 ≤ (readFloatV l at_).2.1 := by
  unfold readFloatV
  split
  · exact Int.le_refl 0
  split
  · exact Int.le_refl 0
  split
  · exact Int.le_refl 0
  · show 0 ≤ at_ + 8
    omega
theorem rdFail_calls {B : Nat} {w0 : World} (g : Nat) (bt : TypeId) (A : Option Addr) (n c : Nat) (s : RS) (x at_ : Int) (L : List It) (w : World) (hS0 : St B w0 w (.blk g bt (rsC A n c s) :: L)) :
    Calls Tryd.prog 64 ⟨[.pointer (some ⟨g, 0, none⟩), .int .i64 x, .int .i64 at_]⟩ w fun en w' => en = .returned (.tuple #[]) ∧ St B w0 w' (.blk g bt (rsC A n c (s.fl x at_)) :: L) := by
  obtain ⟨sa, se, si⟩ := s
  refine gc_enter (N := 23) Tryd.func64 rfl rfl rfl [(0, _), (1, _), (2, _)] rfl ?_
  have hS := St.start w
  have hS := hS0
  refine gc_seq fun K1 hK1 => ?_
  refine gc_region ?_
  refine gl_op rfl rfl rfl (op_pure hT rfl) ?_
  refine gl_op rfl rfl rfl (op_pure hT rfl) ?_
  refine gl_op rfl rfl rfl (op_fieldB 2 rfl Tryd.underlying116 rfl el3 rfl rfl) ?_
  refine gl_op rfl rfl rfl (op_loadB 0 hT hS rfl rfl rfl rfl rfl rfl) ?_
  refine gl_op rfl rfl rfl (op_pure hT rfl) ?_
  refine gl_op rfl rfl rfl (op_pure hT rfl) ?_
  refine gl_split (t := 11) rfl (fun c11 => ?_) (fun c11 => ?_)
  · try simp only [decide_eq_true_eq, decide_eq_false_iff_not, Bool.not_eq_true', Bool.not_eq_false', Int.not_lt, Int.not_le, Nat.not_lt, Nat.not_le, Bool.true_eq, Bool.false_eq, reduceCtorEq] at c11
    refine gl_un rfl rfl rfl rfl ?_
    refine gl_op rfl rfl rfl (op_pure hT rfl) ?_
    refine gl_un rfl rfl rfl rfl ?_
    refine gl_op rfl rfl rfl (op_pure hT rfl) ?_
    refine gl_op rfl rfl rfl (op_pure hT rfl) ?_
    refine gl_nil ?_
    refine hK1 _ _ ?_
    clear hK1; try clear K1
    refine gc_cond rfl rfl (fun c14 => ?_) (fun c14 => ?_)
    · try simp only [decide_eq_true_eq, decide_eq_false_iff_not, Bool.not_eq_true', Bool.not_eq_false', Int.not_lt, Int.not_le, Nat.not_lt, Nat.not_le, Bool.true_eq, Bool.false_eq, reduceCtorEq] at c14
      refine gc_seq fun K2 hK2 => ?_
      refine gc_region ?_
      refine gl_op rfl rfl rfl (op_pure hT rfl) ?_
      refine gl_op rfl rfl rfl (op_pure hT rfl) ?_
      refine gl_op rfl rfl rfl (op_pure hT rfl) ?_
      refine gl_op rfl rfl rfl (op_fieldB 2 rfl Tryd.underlying116 rfl el3 rfl rfl) ?_
      refine gl_store 0 hS el3.cellsOf.1 el3.cellsOf.2 rfl rfl rfl rfl rfl rfl rfl rfl fun wambitref8_go_108 hS => ?_
      refine gl_nil ?_
      refine hK2 _ _ ?_
      clear hK2; try clear K2
      refine gc_region ?_
      refine gl_op rfl rfl rfl (op_pure hT rfl) ?_
      refine gl_op rfl rfl rfl (op_pure hT rfl) ?_
      refine gl_op rfl rfl rfl (op_pure hT rfl) ?_
      refine gl_op rfl rfl rfl (op_fieldB 3 rfl Tryd.underlying116 rfl el3 rfl rfl) ?_
      refine gl_store 0 hS el3.cellsOf.1 el3.cellsOf.2 rfl rfl rfl rfl rfl rfl rfl rfl fun wambitref8_go_109 hS => ?_
      refine gl_nil ?_
      refine gk_end0 rfl ?_
      refine ⟨rfl, ?_⟩
      unfold RS.fl
      first
        | (rw [if_pos (by simp only; omega)]; exact hS)
        | (rw [if_neg (by simp only; omega)]; exact hS)
    · try simp only [decide_eq_true_eq, decide_eq_false_iff_not, Bool.not_eq_true', Bool.not_eq_false', Int.not_lt, Int.not_le, Nat.not_lt, Nat.not_le, Bool.true_eq, Bool.false_eq, reduceCtorEq] at c14
      refine gc_skip ?_
      refine gk_end0 rfl ?_
      refine ⟨rfl, ?_⟩
      unfold RS.fl
      first
        | (rw [if_pos (by simp only; omega)]; exact hS)
        | (rw [if_neg (by simp only; omega)]; exact hS)
  · try simp only [decide_eq_true_eq, decide_eq_false_iff_not, Bool.not_eq_true', Bool.not_eq_false', Int.not_lt, Int.not_le, Nat.not_lt, Nat.not_le, Bool.true_eq, Bool.false_eq, reduceCtorEq] at c11
    refine gl_pass rfl rfl rfl rfl rfl rfl ?_
    refine gl_pass rfl rfl rfl rfl rfl rfl ?_
    refine gl_op rfl rfl rfl (op_pure hT rfl) ?_
    refine gl_nil ?_
    refine hK1 _ _ ?_
    clear hK1; try clear K1
    refine gc_cond_f rfl ?_
    refine gc_skip ?_
    refine gk_end0 rfl ?_
    refine ⟨rfl, ?_⟩
    unfold RS.fl
    first
      | (rw [if_pos (by simp only; omega)]; exact hS)
      | (rw [if_neg (by simp only; omega)]; exact hS)
theorem rdUint_calls {B : Nat} {w0 : World} (g : Nat) (bt : TypeId) (A : Option Addr) (c : Nat) (l : List UInt8) (s : RS) (L : List It) (w : World) (hS0 : St B w0 w (.blk g bt (rsC A l.length c s) :: L)) {ok : Nat → Prop} (hr : Rdb B w0 ok A l) (hb : l.length ≤ 4611686018427387904) :
    Calls Tryd.prog 63 ⟨[.pointer (some ⟨g, 0, none⟩)]⟩ w fun en w' => en = .returned (.int .i64 (rsU l s).1) ∧ St B w0 w' (.blk g bt (rsC A l.length c (rsU l s).2) :: L) := by
  obtain ⟨sa, se, si⟩ := s
  refine gc_enter (N := 36) Tryd.func63 rfl rfl rfl [(0, _)] rfl ?_
  have hS := St.start w
  have hS := hS0
  refine gc_seq fun K1 hK1 => ?_
  refine gc_region ?_
  refine gl_op rfl rfl rfl (op_pure hT rfl) ?_
  refine gl_nil ?_
  refine hK1 _ _ ?_
  clear hK1; try clear K1
  refine gc_seq fun K2 hK2 => ?_
  refine gc_seq fun K3 hK3 => ?_
  refine gc_region ?_
  refine gl_op rfl rfl rfl (op_pure hT rfl) ?_
  refine gl_op rfl rfl rfl (op_pure hT rfl) ?_
  refine gl_op rfl rfl rfl (op_fieldB 2 rfl Tryd.underlying116 rfl el3 rfl rfl) ?_
  refine gl_op rfl rfl rfl (op_loadB 0 hT hS rfl rfl rfl rfl rfl rfl) ?_
  refine gl_op rfl rfl rfl (op_pure hT rfl) ?_
  refine gl_nil ?_
  refine hK3 _ _ ?_
  clear hK3; try clear K3
  refine gc_cond rfl rfl (fun c10 => ?_) (fun c10 => ?_)
  · try simp only [decide_eq_true_eq, decide_eq_false_iff_not, Bool.not_eq_true', Bool.not_eq_false', Int.not_lt, Int.not_le, Nat.not_lt, Nat.not_le, Bool.true_eq, Bool.false_eq, reduceCtorEq] at c10
    refine gc_seq fun K4 hK4 => ?_
    refine gc_region ?_
    refine gl_op rfl rfl rfl (op_pure hT rfl) ?_
    refine gl_nil ?_
    refine hK4 _ _ ?_
    clear hK4; try clear K4
    refine gc_ret ?_
    try simp only [x_then_ret, x_block_ret]
    refine gk_ret1 rfl rfl ?_
    unfold rsU
    rw [if_pos (by simp only; omega)]
    exact ⟨rfl, hS⟩
  · try simp only [decide_eq_true_eq, decide_eq_false_iff_not, Bool.not_eq_true', Bool.not_eq_false', Int.not_lt, Int.not_le, Nat.not_lt, Nat.not_le, Bool.true_eq, Bool.false_eq, reduceCtorEq] at c10
    refine gc_skip ?_
    refine hK2 _ _ ?_
    clear hK2; try clear K2
    refine gc_seq fun K5 hK5 => ?_
    refine gc_anyS hS (by kernel_rfl) rfl fun nq3 hK => ?_
    have hS := hS.dr nq3
    refine ga_take 0 rfl rfl rfl rfl (by kernel_rfl) (fun _ _ _ _ h => h) hK (fun w1 hS => op_pure hT rfl) ?_
    refine ga_take 1 rfl rfl rfl rfl (by kernel_rfl) (fun _ _ _ _ h => h) hK (fun w1 hS => op_pure hT rfl) ?_
    refine ga_take 2 rfl rfl rfl rfl (by kernel_rfl) (fun _ _ _ _ h => h) hK (fun w1 hS => op_fieldB 0 rfl Tryd.underlying116 rfl el31 rfl rfl) ?_
    refine ga_take 3 rfl rfl rfl rfl (by kernel_rfl) (fun _ _ _ _ h => h) hK (fun w1 hS => op_loadB 0 hT hS rfl rfl rfl rfl rfl rfl) ?_
    refine ga_take 4 rfl rfl rfl rfl (by kernel_rfl) (fun _ _ _ _ h => h) hK (fun w1 hS => op_pure hT rfl) ?_
    refine ga_take 5 rfl rfl rfl rfl (by kernel_rfl) (fun _ _ _ _ h => h) hK (fun w1 hS => op_pure hT rfl) ?_
    refine ga_take 6 rfl rfl rfl rfl (by kernel_rfl) (fun _ _ _ _ h => h) hK (fun w1 hS => op_fieldB 1 rfl Tryd.underlying116 rfl el3 rfl rfl) ?_
    refine ga_take 7 rfl rfl rfl rfl (by kernel_rfl) (fun _ _ _ _ h => h) hK (fun w1 hS => op_loadB 0 hT hS rfl rfl rfl rfl rfl rfl) ?_
    refine ga_one 8 (by kernel_rfl) rfl ?_
    refine gl_callf rfl rfl rfl rfl Tryd.func83 rfl rfl rfl (rReadUint_calls A c l sa _ (hr hS) (by omega)) ?_
    rintro _ _ ⟨rfl, n20, rfl⟩
    refine ⟨_, rfl, ?_⟩
    have hS := hS.dr n20
    refine gl_nil ?_
    refine ga_next (hS) fun hK => ?_
    refine ga_take 9 rfl rfl rfl rfl (by kernel_rfl) (fun _ _ _ _ h => h) hK (fun w1 hS => op_pure hT rfl) ?_
    refine ga_take 10 rfl rfl rfl rfl (by kernel_rfl) (fun _ _ _ _ h => h) hK (fun w1 hS => op_pure hT rfl) ?_
    refine ga_take 11 rfl rfl rfl rfl (by kernel_rfl) (fun _ _ _ _ h => h) hK (fun w1 hS => op_pure hT rfl) ?_
    refine ga_take 12 rfl rfl rfl rfl (by kernel_rfl) (fun _ _ _ _ h => h) hK (fun w1 hS => op_pure hT rfl) ?_
    refine ga_take 13 rfl rfl rfl rfl (by kernel_rfl) (fun _ _ _ _ h => h) hK (fun w1 hS => op_pure hT rfl) ?_
    refine ga_take 14 rfl rfl rfl rfl (by kernel_rfl) (fun _ _ _ _ h => h) hK (fun w1 hS => op_pure hT rfl) ?_
    refine ga_take 15 rfl rfl rfl rfl (by kernel_rfl) (fun _ _ _ _ h => h) hK (fun w1 hS => op_pure hT rfl) ?_
    refine ga_done (by kernel_rfl) ?_
    refine hK5 _ _ ?_
    clear hK5; try clear K5
    refine gc_seq fun K6 hK6 => ?_
    refine gc_region ?_
    refine gl_op rfl rfl rfl (op_pure hT rfl) ?_
    refine gl_op rfl rfl rfl (op_pure hT rfl) ?_
    refine gl_op rfl rfl rfl (op_pure hT rfl) ?_
    refine gl_op rfl rfl rfl (op_pure hT rfl) ?_
    refine gl_op rfl rfl rfl (op_fieldB 1 rfl Tryd.underlying116 rfl el3 rfl rfl) ?_
    refine gl_op rfl rfl rfl (op_loadB 0 hT hS rfl rfl rfl rfl rfl rfl) ?_
    refine gl_callf rfl rfl rfl rfl Tryd.func64 rfl rfl rfl (rdFail_calls g bt A l.length c ⟨sa, se, si⟩ (readUV l sa).2.2 sa _ _ hS) ?_
    rintro _ w30 ⟨rfl, hS⟩
    refine ⟨_, rfl, ?_⟩
    refine gl_nil ?_
    refine hK6 _ _ ?_
    clear hK6; try clear K6
    refine gc_seq fun K7 hK7 => ?_
    refine gc_region ?_
    refine gl_op rfl rfl rfl (op_pure hT rfl) ?_
    refine gl_op rfl rfl rfl (op_pure hT rfl) ?_
    refine gl_op rfl rfl rfl (op_pure hT rfl) ?_
    refine gl_op rfl rfl rfl (op_fieldB 1 rfl Tryd.underlying116 rfl el3 rfl rfl) ?_
    refine gl_store 0 hS el3.cellsOf.1 el3.cellsOf.2 rfl rfl rfl rfl rfl rfl rfl rfl fun wambitref8_go_120 hS => ?_
    refine gl_nil ?_
    refine hK7 _ _ ?_
    clear hK7; try clear K7
    refine gc_seq fun K8 hK8 => ?_
    refine gc_region ?_
    refine gl_op rfl rfl rfl (op_pure hT rfl) ?_
    refine gl_op rfl rfl rfl (op_pure hT rfl) ?_
    refine gl_nil ?_
    refine hK8 _ _ ?_
    clear hK8; try clear K8
    refine gc_ret ?_
    try simp only [x_then_ret, x_block_ret]
    refine gk_ret1 rfl rfl ?_
    unfold rsU
    rw [if_neg (by simp only; omega)]
    exact ⟨rfl, hS⟩
theorem rdBounded_calls {B : Nat} {w0 : World} (g : Nat) (bt : TypeId) (A : Option Addr) (c : Nat) (l : List UInt8) (s : RS) (lo hi : Int) (L : List It) (w : World) (hS0 : St B w0 w (.blk g bt (rsC A l.length c s) :: L)) {ok : Nat → Prop} (hr : Rdb B w0 ok A l) (hb : l.length ≤ 4611686018427387904) :
    Calls Tryd.prog 61 ⟨[.pointer (some ⟨g, 0, none⟩), .int .i64 lo, .int .i64 hi]⟩ w fun en w' => en = .returned (.int .i64 (rsB l lo hi s).1) ∧ St B w0 w' (.blk g bt (rsC A l.length c (rsB l lo hi s).2) :: L) := by
  unfold rsB
  have hU := rdUint_calls g bt A c l s _ _ hS0 hr hb
  generalize rsU l s = r at hU ⊢
  obtain ⟨v, s1⟩ := r
  simp only at hU ⊢
  refine gc_enter (N := 34) Tryd.func61 rfl rfl rfl [(0, _), (1, _), (2, _)] rfl ?_
  have hS := St.start w
  have hS := hS0
  refine gc_seq fun K1 hK1 => ?_
  refine gc_region ?_
  refine gl_op rfl rfl rfl (op_pure hT rfl) ?_
  refine gl_nil ?_
  refine hK1 _ _ ?_
  clear hK1; try clear K1
  refine gc_seq fun K2 hK2 => ?_
  refine gc_region ?_
  refine gl_op rfl rfl rfl (op_pure hT rfl) ?_
  refine gl_op rfl rfl rfl (op_pure hT rfl) ?_
  refine gl_op rfl rfl rfl (op_fieldB 1 rfl Tryd.underlying116 rfl el3 rfl rfl) ?_
  refine gl_op rfl rfl rfl (op_loadB 0 hT hS rfl rfl rfl rfl rfl rfl) ?_
  refine gl_op rfl rfl rfl (op_pure hT rfl) ?_
  refine gl_nil ?_
  refine hK2 _ _ ?_
  clear hK2; try clear K2
  refine gc_seq fun K3 hK3 => ?_
  refine gc_region ?_
  refine gl_op rfl rfl rfl (op_pure hT rfl) ?_
  refine gl_callf rfl rfl rfl rfl Tryd.func63 rfl rfl rfl hU ?_
  rintro _ w14 ⟨rfl, hS⟩
  refine ⟨_, rfl, ?_⟩
  refine gl_op rfl rfl rfl (op_pure hT rfl) ?_
  refine gl_nil ?_
  refine hK3 _ _ ?_
  clear hK3; try clear K3
  refine gc_seq fun K4 hK4 => ?_
  refine gc_seq fun K5 hK5 => ?_
  refine gc_region ?_
  refine gl_op rfl rfl rfl (op_pure hT rfl) ?_
  refine gl_op rfl rfl rfl (op_pure hT rfl) ?_
  refine gl_op rfl rfl rfl (op_fieldB 2 rfl Tryd.underlying116 rfl el3 rfl rfl) ?_
  refine gl_op rfl rfl rfl (op_loadB 0 hT hS rfl rfl rfl rfl rfl rfl) ?_
  refine gl_op rfl rfl rfl (op_pure hT rfl) ?_
  refine gl_op rfl rfl rfl (op_pure hT rfl) ?_
  refine gl_split (t := 20) rfl (fun c20 => ?_) (fun c20 => ?_)
  · try simp only [decide_eq_true_eq, decide_eq_false_iff_not, Bool.not_eq_true', Bool.not_eq_false', Int.not_lt, Int.not_le, Nat.not_lt, Nat.not_le, Bool.true_eq, Bool.false_eq, reduceCtorEq] at c20
    refine gl_un rfl rfl rfl rfl ?_
    refine gl_op rfl rfl rfl (op_pure hT rfl) ?_
    refine gl_un rfl rfl rfl rfl ?_
    refine gl_op rfl rfl rfl (op_pure hT rfl) ?_
    refine gl_un rfl rfl rfl rfl ?_
    refine gl_op rfl rfl rfl (op_pure hT rfl) ?_
    refine gl_un rfl rfl rfl rfl ?_
    refine gl_op rfl rfl rfl (op_pure hT rfl) ?_
    refine gl_split (t := 24) rfl (fun c24 => ?_) (fun c24 => ?_)
    · try simp only [decide_eq_true_eq, decide_eq_false_iff_not, Bool.not_eq_true', Bool.not_eq_false', Int.not_lt, Int.not_le, Nat.not_lt, Nat.not_le, Bool.true_eq, Bool.false_eq, reduceCtorEq] at c24
      refine gl_pass rfl rfl rfl rfl rfl rfl ?_
      refine gl_pass rfl rfl rfl rfl rfl rfl ?_
      refine gl_pass rfl rfl rfl rfl rfl rfl ?_
      refine gl_un rfl rfl rfl rfl ?_
      refine gl_op rfl rfl rfl (op_pure hT rfl) ?_
      refine gl_op rfl rfl rfl (op_pure hT rfl) ?_
      refine gl_nil ?_
      refine hK5 _ _ ?_
      clear hK5; try clear K5
      refine gc_cond_t rfl ?_
      refine gc_region ?_
      refine gl_op rfl rfl rfl (op_pure hT rfl) ?_
      refine gl_op rfl rfl rfl (op_pure hT rfl) ?_
      refine gl_callf rfl rfl rfl rfl Tryd.func64 rfl rfl rfl (rdFail_calls g bt A l.length c s1 65 s.a _ _ hS) ?_
      rintro _ w32 ⟨rfl, hS⟩
      refine ⟨_, rfl, ?_⟩
      refine gl_nil ?_
      refine hK4 _ _ ?_
      clear hK4; try clear K4
      refine gc_seq fun K6 hK6 => ?_
      refine gc_region ?_
      refine gl_op rfl rfl rfl (op_pure hT rfl) ?_
      refine gl_op rfl rfl rfl (op_pure hT rfl) ?_
      refine gl_nil ?_
      refine hK6 _ _ ?_
      clear hK6; try clear K6
      refine gc_ret ?_
      try simp only [x_then_ret, x_block_ret]
      refine gk_ret1 rfl rfl ?_
      first
        | (rw [if_pos (by omega)]; exact ⟨rfl, hS⟩)
        | (rw [if_neg (by omega)]; exact ⟨rfl, hS⟩)
    · try simp only [decide_eq_true_eq, decide_eq_false_iff_not, Bool.not_eq_true', Bool.not_eq_false', Int.not_lt, Int.not_le, Nat.not_lt, Nat.not_le, Bool.true_eq, Bool.false_eq, reduceCtorEq] at c24
      refine gl_un rfl rfl rfl rfl ?_
      refine gl_op rfl rfl rfl (op_pure hT rfl) ?_
      refine gl_un rfl rfl rfl rfl ?_
      refine gl_op rfl rfl rfl (op_pure hT rfl) ?_
      refine gl_un rfl rfl rfl rfl ?_
      refine gl_op rfl rfl rfl (op_pure hT rfl) ?_
      refine gl_un rfl rfl rfl rfl ?_
      refine gl_op rfl rfl rfl (op_pure hT rfl) ?_
      refine gl_op rfl rfl rfl (op_pure hT rfl) ?_
      refine gl_nil ?_
      refine hK5 _ _ ?_
      clear hK5; try clear K5
      refine gc_cond rfl rfl (fun c29 => ?_) (fun c29 => ?_)
      · try simp only [decide_eq_true_eq, decide_eq_false_iff_not, Bool.not_eq_true', Bool.not_eq_false', Int.not_lt, Int.not_le, Nat.not_lt, Nat.not_le, Bool.true_eq, Bool.false_eq, reduceCtorEq] at c29
        refine gc_region ?_
        refine gl_op rfl rfl rfl (op_pure hT rfl) ?_
        refine gl_op rfl rfl rfl (op_pure hT rfl) ?_
        refine gl_callf rfl rfl rfl rfl Tryd.func64 rfl rfl rfl (rdFail_calls g bt A l.length c s1 65 s.a _ _ hS) ?_
        rintro _ w32 ⟨rfl, hS⟩
        refine ⟨_, rfl, ?_⟩
        refine gl_nil ?_
        refine hK4 _ _ ?_
        clear hK4; try clear K4
        refine gc_seq fun K7 hK7 => ?_
        refine gc_region ?_
        refine gl_op rfl rfl rfl (op_pure hT rfl) ?_
        refine gl_op rfl rfl rfl (op_pure hT rfl) ?_
        refine gl_nil ?_
        refine hK7 _ _ ?_
        clear hK7; try clear K7
        refine gc_ret ?_
        try simp only [x_then_ret, x_block_ret]
        refine gk_ret1 rfl rfl ?_
        first
          | (rw [if_pos (by omega)]; exact ⟨rfl, hS⟩)
          | (rw [if_neg (by omega)]; exact ⟨rfl, hS⟩)
      · try simp only [decide_eq_true_eq, decide_eq_false_iff_not, Bool.not_eq_true', Bool.not_eq_false', Int.not_lt, Int.not_le, Nat.not_lt, Nat.not_le, Bool.true_eq, Bool.false_eq, reduceCtorEq] at c29
        refine gc_skip ?_
        refine hK4 _ _ ?_
        clear hK4; try clear K4
        refine gc_seq fun K8 hK8 => ?_
        refine gc_region ?_
        refine gl_op rfl rfl rfl (op_pure hT rfl) ?_
        refine gl_op rfl rfl rfl (op_pure hT rfl) ?_
        refine gl_nil ?_
        refine hK8 _ _ ?_
        clear hK8; try clear K8
        refine gc_ret ?_
        try simp only [x_then_ret, x_block_ret]
        refine gk_ret1 rfl rfl ?_
        first
          | (rw [if_pos (by omega)]; exact ⟨rfl, hS⟩)
          | (rw [if_neg (by omega)]; exact ⟨rfl, hS⟩)
  · try simp only [decide_eq_true_eq, decide_eq_false_iff_not, Bool.not_eq_true', Bool.not_eq_false', Int.not_lt, Int.not_le, Nat.not_lt, Nat.not_le, Bool.true_eq, Bool.false_eq, reduceCtorEq] at c20
    refine gl_pass rfl rfl rfl rfl rfl rfl ?_
    refine gl_pass rfl rfl rfl rfl rfl rfl ?_
    refine gl_pass rfl rfl rfl rfl rfl rfl ?_
    refine gl_pass rfl rfl rfl rfl rfl rfl ?_
    refine gl_none rfl rfl rfl rfl rfl ?_
    refine gl_none rfl rfl rfl rfl rfl ?_
    refine gl_none rfl rfl rfl rfl rfl ?_
    refine gl_pass rfl rfl rfl rfl rfl rfl ?_
    refine gl_op rfl rfl rfl (op_pure hT rfl) ?_
    refine gl_nil ?_
    refine hK5 _ _ ?_
    clear hK5; try clear K5
    refine gc_cond_f rfl ?_
    refine gc_skip ?_
    refine hK4 _ _ ?_
    clear hK4; try clear K4
    refine gc_seq fun K9 hK9 => ?_
    refine gc_region ?_
    refine gl_op rfl rfl rfl (op_pure hT rfl) ?_
    refine gl_op rfl rfl rfl (op_pure hT rfl) ?_
    refine gl_nil ?_
    refine hK9 _ _ ?_
    clear hK9; try clear K9
    refine gc_ret ?_
    try simp only [x_then_ret, x_block_ret]
    refine gk_ret1 rfl rfl ?_
    first
      | (rw [if_pos (by omega)]; exact ⟨rfl, hS⟩)
      | (rw [if_neg (by omega)]; exact ⟨rfl, hS⟩)
theorem rsF1_lt (l : List UInt8) (s : RS) : (rsF1 l s).1 < 18446744073709551616 := by
  show (readFloatV l s.a).1 < _
  unfold readFloatV
  split
  · show 0 < _; omega
  split
  · show 0 < _; omega
  split
  · show 0 < _; omega
  · have := vLE_lt l s.a.toNat 8
    rw [show (256 : Nat) ^ 8 = 18446744073709551616 by decide] at this
    exact this
theorem rsFs_ok (l : List UInt8) : ∀ (n : Nat) (s : RS), (rsFs l n s).1.length ≤ n ∧ (∀ u ∈ (rsFs l n s).1, u < 18446744073709551616) ∧ (0 ≤ s.a → 0 ≤ (rsFs l n s).2.a) ∧ ((rsFs l n s).2.e = 0 → s.e = 0)
  | 0, s => ⟨Nat.le_refl _, (fun u hu => by cases hu), id, id⟩
  | n + 1, s => by
    by_cases he : s.e ≠ 0
    · rw [rsFs_dead he]
      exact ⟨Nat.zero_le _, (fun u hu => by cases hu), id, id⟩
    · obtain ⟨h1, h2, h3, h4⟩ := rsFs_ok l n (rsF1 l s).2
      rw [rsFs_succ he]
      refine ⟨by simp only [List.length_cons]; omega, fun u hu => ?_, fun _ => h3 (rF_at l s.a), fun _ => by omega⟩
      rcases List.mem_cons.1 hu with rfl | hu
      · exact rsF1_lt l s
      · exact h2 u hu
set_option maxRecDepth 100000 in
theorem rdFloats_calls {B : Nat} {w0 : World} (g : Nat) (bt : TypeId) (A : Option Addr) (c : Nat) (l : List UInt8) (s : RS) (m : Int) (L : List It) (w : World) (hS0 : St B w0 w (.blk g bt (rsC A l.length c s) :: L)) {ok : Nat → Prop} (hr : Rdb B w0 ok A l) (hb : l.length ≤ 4611686018427387904) (hm0 : 0 ≤ m ∧ m ≤ 9223372036854775807) (hm : s.e = 0 → m ≤ 1048576) (ha : 0 ≤ s.a) :
    Calls Tryd.prog 62 ⟨[.pointer (some ⟨g, 0, none⟩), .int .i64 m]⟩ w fun en w' => ∃ A' c', en = .returned (.slice A' (rsFs l m.toNat s).1.length c') ∧ St B w0 w' (.blk g bt (rsC A l.length c (rsFs l m.toNat s).2) :: .row A' c' 77 1 (rsFs l m.toNat s).1.length ((rsFs l m.toNat s).1.map uV) :: L) := by
  obtain ⟨m, rfl⟩ : ∃ k : Nat, m = k := ⟨m.toNat, by omega⟩
  rw [Int.toNat_natCast]
  refine gc_enter (N := 51) Tryd.func62 rfl rfl rfl [(0, _), (1, _)] rfl ?_
  have hS := St.start w
  have hS := hS0
  refine gc_seq fun K1 hK1 => ?_
  refine gc_region ?_
  refine gl_op rfl rfl rfl (op_pure hT rfl) ?_
  refine gl_nil ?_
  refine hK1 _ _ ?_
  clear hK1; try clear K1
  refine gc_seq fun K2 hK2 => ?_
  refine gc_region ?_
  refine gl_op rfl rfl rfl (op_pure hT rfl) ?_
  refine gl_nil ?_
  refine hK2 _ _ ?_
  clear hK2; try clear K2
  refine gc_seq fun K3 hK3 => ?_
  refine gc_seq fun K4 hK4 => ?_
  refine gc_region ?_
  refine gl_op rfl rfl rfl (op_pure hT rfl) ?_
  refine gl_nil ?_
  refine hK4 _ _ ?_
  clear hK4; try clear K4
  refine gc_block ?_
  have hS := (hS.nil 77 1).front2
  refine gc_loop (fun kk a' w' => ∃ (i : Nat) (us : List Nat) (s1 : RS) (A' : Option Addr) (c' : Nat), Fr 51 a' [(0, .pointer (some ⟨g, 0, none⟩)), (1, .int .i64 (m : Nat)), (5, .slice A' us.length c'), (6, .int .i64 (i : Nat))] ∧ i ≤ m ∧ kk = m + 1 - i ∧ us.length ≤ i ∧ rsFs l i s = (us, s1) ∧ 0 ≤ s1.a ∧ (s1.e = 0 → s.e = 0) ∧
    St B w0 w' (.blk g bt (rsC A l.length c s1) :: .row A' c' 77 1 us.length (us.map uV) :: L)) (m + 1) ?_ ?_ ?_
  · intro a' ha; exact ⟨0, [], s, none, 0, ha.sub ⟨rfl, rfl, rfl, rfl, trivial⟩, by omega, by omega, Nat.le_refl _, rfl, by assumption, id, hS⟩
  · rintro a' w' ⟨i, _, _, _, _, _, h1, h2, _⟩; omega
  clear hS
  rintro kk a' w1 ⟨i, us, s1, A', c', hF, hi, hk, hul, hus, hmin, hdead, hS⟩
  refine gc_of hF ?_
  clear hF
  have hsn := rsFs_snoc (l := l) (n := i) (s := s) (k := 1) hus
  refine gc_seq fun K5 hK5 => ?_
  refine gc_seq fun K6 hK6 => ?_
  refine gc_region ?_
  refine gl_op rfl rfl rfl (op_pure hT rfl) ?_
  refine gl_op rfl rfl rfl (op_pure hT rfl) ?_
  refine gl_op rfl rfl rfl (op_pure hT rfl) ?_
  refine gl_op rfl rfl rfl (op_pure hT rfl) ?_
  refine gl_split (t := 13) rfl (fun c13 => ?_) (fun c13 => ?_)
  · try simp only [decide_eq_true_eq, decide_eq_false_iff_not, Bool.not_eq_true', Bool.not_eq_false', Int.not_lt, Int.not_le, Nat.not_lt, Nat.not_le, Bool.true_eq, Bool.false_eq, reduceCtorEq] at c13
    refine gl_un rfl rfl rfl rfl ?_
    refine gl_op rfl rfl rfl (op_pure hT rfl) ?_
    refine gl_un rfl rfl rfl rfl ?_
    refine gl_op rfl rfl rfl (op_pure hT rfl) ?_
    refine gl_un rfl rfl rfl rfl ?_
    refine gl_op rfl rfl rfl (op_fieldB 2 rfl Tryd.underlying116 rfl el3 rfl rfl) ?_
    refine gl_un rfl rfl rfl rfl ?_
    refine gl_op rfl rfl rfl (op_loadB 0 hT hS rfl rfl rfl rfl rfl rfl) ?_
    refine gl_un rfl rfl rfl rfl ?_
    refine gl_op rfl rfl rfl (op_pure hT rfl) ?_
    refine gl_op rfl rfl rfl (op_pure hT rfl) ?_
    refine gl_nil ?_
    refine hK6 _ _ ?_
    clear hK6; try clear K6
    refine gc_cond rfl rfl (fun c19 => ?_) (fun c19 => ?_)
    · try simp only [decide_eq_true_eq, decide_eq_false_iff_not, Bool.not_eq_true', Bool.not_eq_false', Int.not_lt, Int.not_le, Nat.not_lt, Nat.not_le, Bool.true_eq, Bool.false_eq, reduceCtorEq] at c19
      refine gc_skip ?_
      refine hK5 _ _ ?_
      clear hK5; try clear K5
      refine gc_seq fun K7 hK7 => ?_
      refine gc_block ?_
      refine gc_seq fun K8 hK8 => ?_
      refine gc_anyS hS (by kernel_rfl) rfl fun nq5 hK => ?_
      have hS := hS.dr nq5
      refine ga_take 0 rfl rfl rfl rfl (by kernel_rfl) (fun _ _ _ _ h => h) hK (fun w1 hS => op_pure hT rfl) ?_
      refine ga_take 1 rfl rfl rfl rfl (by kernel_rfl) (fun _ _ _ _ h => h) hK (fun w1 hS => op_pure hT rfl) ?_
      refine ga_take 2 rfl rfl rfl rfl (by kernel_rfl) (fun _ _ _ _ h => h) hK (fun w1 hS => op_fieldB 0 rfl Tryd.underlying116 rfl el31 rfl rfl) ?_
      refine ga_take 3 rfl rfl rfl rfl (by kernel_rfl) (fun _ _ _ _ h => h) hK (fun w1 hS => op_loadB 0 hT hS rfl rfl rfl rfl rfl rfl) ?_
      refine ga_take 4 rfl rfl rfl rfl (by kernel_rfl) (fun _ _ _ _ h => h) hK (fun w1 hS => op_pure hT rfl) ?_
      refine ga_take 5 rfl rfl rfl rfl (by kernel_rfl) (fun _ _ _ _ h => h) hK (fun w1 hS => op_pure hT rfl) ?_
      refine ga_take 6 rfl rfl rfl rfl (by kernel_rfl) (fun _ _ _ _ h => h) hK (fun w1 hS => op_fieldB 1 rfl Tryd.underlying116 rfl el3 rfl rfl) ?_
      refine ga_take 7 rfl rfl rfl rfl (by kernel_rfl) (fun _ _ _ _ h => h) hK (fun w1 hS => op_loadB 0 hT hS rfl rfl rfl rfl rfl rfl) ?_
      refine ga_one 8 (by kernel_rfl) rfl ?_
      refine gl_callf rfl rfl rfl rfl Tryd.func82 rfl rfl rfl (rReadFloat_calls A c l s1.a _ (hr hS) (by omega) (by omega)) ?_
      rintro _ _ ⟨rfl, n31, rfl⟩
      refine ⟨_, rfl, ?_⟩
      have hS := hS.dr n31
      refine gl_nil ?_
      refine ga_next (hS) fun hK => ?_
      refine ga_take 9 rfl rfl rfl rfl (by kernel_rfl) (fun _ _ _ _ h => h) hK (fun w1 hS => op_pure hT rfl) ?_
      refine ga_take 10 rfl rfl rfl rfl (by kernel_rfl) (fun _ _ _ _ h => h) hK (fun w1 hS => op_pure hT rfl) ?_
      refine ga_take 11 rfl rfl rfl rfl (by kernel_rfl) (fun _ _ _ _ h => h) hK (fun w1 hS => op_pure hT rfl) ?_
      refine ga_take 12 rfl rfl rfl rfl (by kernel_rfl) (fun _ _ _ _ h => h) hK (fun w1 hS => op_pure hT rfl) ?_
      refine ga_take 13 rfl rfl rfl rfl (by kernel_rfl) (fun _ _ _ _ h => h) hK (fun w1 hS => op_pure hT rfl) ?_
      refine ga_take 14 rfl rfl rfl rfl (by kernel_rfl) (fun _ _ _ _ h => h) hK (fun w1 hS => op_pure hT rfl) ?_
      refine ga_take 15 rfl rfl rfl rfl (by kernel_rfl) (fun _ _ _ _ h => h) hK (fun w1 hS => op_pure hT rfl) ?_
      refine ga_done (by kernel_rfl) ?_
      refine hK8 _ _ ?_
      clear hK8; try clear K8
      refine gc_seq fun K9 hK9 => ?_
      refine gc_region ?_
      refine gl_op rfl rfl rfl (op_pure hT rfl) ?_
      refine gl_op rfl rfl rfl (op_pure hT rfl) ?_
      refine gl_op rfl rfl rfl (op_pure hT rfl) ?_
      refine gl_op rfl rfl rfl (op_pure hT rfl) ?_
      refine gl_op rfl rfl rfl (op_fieldB 1 rfl Tryd.underlying116 rfl el3 rfl rfl) ?_
      refine gl_op rfl rfl rfl (op_loadB 0 hT hS rfl rfl rfl rfl rfl rfl) ?_
      refine gl_callf rfl rfl rfl rfl Tryd.func64 rfl rfl rfl (rdFail_calls g bt A l.length c s1 (readFloatV l s1.a).2.2 s1.a _ _ hS) ?_
      rintro _ w41 ⟨rfl, hS⟩
      refine ⟨_, rfl, ?_⟩
      have hmb : m ≤ 1048576 := by have := hm (hdead (by omega)); omega
      refine gl_nil ?_
      refine hK9 _ _ ?_
      clear hK9; try clear K9
      refine gc_seq fun K10 hK10 => ?_
      refine gc_region ?_
      refine gl_op rfl rfl rfl (op_pure hT rfl) ?_
      refine gl_op rfl rfl rfl (op_pure hT rfl) ?_
      refine gl_op rfl rfl rfl (op_pure hT rfl) ?_
      refine gl_op rfl rfl rfl (op_fieldB 1 rfl Tryd.underlying116 rfl el3 rfl rfl) ?_
      refine gl_store 0 hS el3.cellsOf.1 el3.cellsOf.2 rfl rfl rfl rfl rfl rfl rfl rfl fun wambitref8_go_130 hS => ?_
      refine gl_nil ?_
      refine hK10 _ _ ?_
      clear hK10; try clear K10
      refine gc_region ?_
      refine gl_op rfl rfl rfl (op_pure hT rfl) ?_
      refine gl_op rfl rfl rfl (op_pure hT rfl) ?_
      refine gl_lit hT hS el77 rfl rfl rfl rfl rfl rfl rfl rfl rfl fun g48 w48 hS => ?_
      have hS := hS.moveIn 2
      refine gl_append 1 hT hS el77 (hS.rd (i := 2) rfl) (rfl) rfl rfl rfl rfl rfl rfl rfl rfl (by first | omega | (simp; omega)) (by first | omega | (simp; omega)) fun A49 c49 w49 hS => ?_
      have hS := hS.erase 2
      refine gl_op rfl rfl rfl (op_pure hT rfl) ?_
      refine gl_nil ?_
      refine hK7 _ _ ?_
      clear hK7; try clear K7
      refine gc_region ?_
      refine gl_op rfl rfl rfl (op_pure hT rfl) ?_
      first | refine gl_fit hT rfl rfl rfl rfl (by omega) ?_ | refine gl_op rfl rfl rfl (op_pure hT rfl) ?_
      refine gl_op rfl rfl rfl (op_pure hT rfl) ?_
      refine gl_nil ?_
      intro a' ha
      have he : ¬ s1.e ≠ 0 := by omega
      have h1 : rsFs l 1 s1 = ([(rsF1 l s1).1], (rsF1 l s1).2) := rsFs_succ he
      rw [h1] at hsn
      refine ⟨i + 1, us ++ [(rsF1 l s1).1], (rsF1 l s1).2, A49, c49, ha.sub ⟨rfl, rfl, ?_, rfl, trivial⟩, by omega, by omega, by rw [List.length_append]; simp; omega, hsn, rF_at l s1.a, fun _ => hdead (by omega), ?_⟩
      · rw [List.length_append]; rfl
      · rw [List.map_append, List.length_append]
        exact hS
    · try simp only [decide_eq_true_eq, decide_eq_false_iff_not, Bool.not_eq_true', Bool.not_eq_false', Int.not_lt, Int.not_le, Nat.not_lt, Nat.not_le, Bool.true_eq, Bool.false_eq, reduceCtorEq] at c19
      refine gc_exit ?_
      refine hK3 _ _ ?_
      clear hK3; try clear K3
      refine gc_seq fun K11 hK11 => ?_
      refine gc_region ?_
      refine gl_op rfl rfl rfl (op_pure hT rfl) ?_
      refine gl_op rfl rfl rfl (op_pure hT rfl) ?_
      refine gl_nil ?_
      refine hK11 _ _ ?_
      clear hK11; try clear K11
      refine gc_ret ?_
      try simp only [x_then_ret, x_block_ret]
      refine gk_ret1 rfl rfl ?_
      have hfin : rsFs l m s = (us, s1) := by
        have h2 := rsFs_snoc (l := l) (n := i) (s := s) (k := m - i) hus
        rw [show i + (m - i) = m by omega] at h2
        by_cases he : s1.e ≠ 0
        · rw [rsFs_dead he, List.append_nil] at h2; exact h2
        · have him : m - i = 0 := by omega
          rw [him] at h2
          rw [h2]
          exact congrArg (·, s1) (List.append_nil us)
      rw [hfin]
      exact ⟨A', c', rfl, hS⟩
  · try simp only [decide_eq_true_eq, decide_eq_false_iff_not, Bool.not_eq_true', Bool.not_eq_false', Int.not_lt, Int.not_le, Nat.not_lt, Nat.not_le, Bool.true_eq, Bool.false_eq, reduceCtorEq] at c13
    refine gl_pass rfl rfl rfl rfl rfl rfl ?_
    refine gl_pass rfl rfl rfl rfl rfl rfl ?_
    refine gl_pass rfl rfl rfl rfl rfl rfl ?_
    refine gl_pass rfl rfl rfl rfl rfl rfl ?_
    refine gl_pass rfl rfl rfl rfl rfl rfl ?_
    refine gl_op rfl rfl rfl (op_pure hT rfl) ?_
    refine gl_nil ?_
    refine hK6 _ _ ?_
    clear hK6; try clear K6
    refine gc_cond_f rfl ?_
    refine gc_exit ?_
    refine hK3 _ _ ?_
    clear hK3; try clear K3
    refine gc_seq fun K12 hK12 => ?_
    refine gc_region ?_
    refine gl_op rfl rfl rfl (op_pure hT rfl) ?_
    refine gl_op rfl rfl rfl (op_pure hT rfl) ?_
    refine gl_nil ?_
    refine hK12 _ _ ?_
    clear hK12; try clear K12
    refine gc_ret ?_
    try simp only [x_then_ret, x_block_ret]
    refine gk_ret1 rfl rfl ?_
    have hfin : rsFs l m s = (us, s1) := by
      have h2 := rsFs_snoc (l := l) (n := i) (s := s) (k := m - i) hus
      rw [show i + (m - i) = m by omega] at h2
      by_cases he : s1.e ≠ 0
      · rw [rsFs_dead he, List.append_nil] at h2; exact h2
      · have him : m - i = 0 := by omega
        rw [him] at h2
        rw [h2]
        exact congrArg (·, s1) (List.append_nil us)
    rw [hfin]
    exact ⟨A', c', rfl, hS⟩
def rsH (mm l : List UInt8) : RS := match hdV mm l with | some (x, y) => ⟨0, x, y⟩ | none => ⟨5, 0, 0⟩
theorem rsH_live (l : List UInt8) : (rsH [65, 77, 66, 80] l).e = 0 → (rsH [65, 77, 66, 80] l).a = 5 ∧ 5 ≤ l.length ∧ l.length ≤ 1048576 := by
  unfold rsH hdV
  split
  · rename_i x y h
    intro h0
    have hx : x = 0 := h0
    subst hx
    split at h
    · injection h with h; injection h with h; omega
    split at h
    · injection h with h; injection h with h; omega
    split at h
    · injection h with h; injection h with h; omega
    · cases h
  · rename_i h
    intro _
    split at h
    · cases h
    split at h
    · cases h
    split at h
    · cases h
    · exact ⟨rfl, by omega, by omega⟩
def rsT (l : List UInt8) (s : RS) : RS := if s.e ≠ 0 then s else match tlV l s.a with | some (x, y) => ⟨s.a, x, y⟩ | none => s
set_option maxRecDepth 100000 in
theorem rdHead_calls {B : Nat} {w0 : World} (g : Nat) (bt : TypeId) (A : Option Addr) (c : Nat) (l : List UInt8) (L : List It) (w : World) (hS0 : St B w0 w (.blk g bt (rsC A l.length c ⟨0, 0, 0⟩) :: L)) {ok : Nat → Prop} (hr : Rdb B w0 ok A l) (hc : l.length ≤ c) (hb : l.length ≤ 4611686018427387904) :
    Calls Tryd.prog 60 ⟨[.pointer (some ⟨g, 0, none⟩), .int .u8 80]⟩ w fun en w' => en = .returned (.tuple #[]) ∧ St B w0 w' (.blk g bt (rsC A l.length c (rsH [65, 77, 66, 80] l)) :: L) := by
  refine gc_enter (N := 53) Tryd.func60 rfl rfl rfl [(0, _), (1, _)] rfl ?_
  have hS := St.start w
  have hS : St B w0 w (.blk g bt [.slice A l.length c, .int .i64 0, .int .i64 0, .int .i64 0] :: L) := hS0
  refine gc_seq fun K1 hK1 => ?_
  refine gc_seq fun K2 hK2 => ?_
  refine gc_region ?_
  refine gl_op rfl rfl rfl (op_pure hT rfl) ?_
  refine gl_op rfl rfl rfl (op_pure hT rfl) ?_
  refine gl_op rfl rfl rfl (op_fieldB 0 rfl Tryd.underlying116 rfl el31 rfl rfl) ?_
  refine gl_op rfl rfl rfl (op_loadB 0 hT hS rfl rfl rfl rfl rfl rfl) ?_
  refine gl_op rfl rfl rfl (op_pure hT rfl) ?_
  refine gl_op rfl rfl rfl (op_pure hT rfl) ?_
  refine gl_nil ?_
  refine hK2 _ _ ?_
  clear hK2; try clear K2
  refine gc_cond rfl rfl (fun c9 => ?_) (fun c9 => ?_)
  · try simp only [decide_eq_true_eq, decide_eq_false_iff_not, Bool.not_eq_true', Bool.not_eq_false', Int.not_lt, Int.not_le, Nat.not_lt, Nat.not_le, Bool.true_eq, Bool.false_eq, reduceCtorEq] at c9
    refine gc_seq fun K3 hK3 => ?_
    refine gc_region ?_
    refine gl_op rfl rfl rfl (op_pure hT rfl) ?_
    refine gl_callf rfl rfl rfl rfl Tryd.func64 rfl rfl rfl (rdFail_calls g bt A l.length c ⟨0, 0, 0⟩ (2) (1048576) _ _ hS) ?_
    rintro _ w11 ⟨rfl, hS⟩
    refine ⟨_, rfl, ?_⟩
    refine gl_nil ?_
    refine hK3 _ _ ?_
    clear hK3; try clear K3
    refine gc_ret ?_
    try simp only [x_then_ret, x_block_ret]
    refine gk_ret0 rfl ?_
    refine ⟨rfl, ?_⟩
    rw [show rsH [65, 77, 66, 80] l = ⟨0, 2, 1048576⟩ by unfold rsH hdV; rw [if_pos (by omega)]]
    exact hS
  · try simp only [decide_eq_true_eq, decide_eq_false_iff_not, Bool.not_eq_true', Bool.not_eq_false', Int.not_lt, Int.not_le, Nat.not_lt, Nat.not_le, Bool.true_eq, Bool.false_eq, reduceCtorEq] at c9
    refine gc_skip ?_
    refine hK1 _ _ ?_
    clear hK1; try clear K1
    refine gc_seq fun K4 hK4 => ?_
    refine gc_seq fun K5 hK5 => ?_
    refine gc_anyS hS (by kernel_rfl) rfl fun nq2 hK => ?_
    have hS := hS.dr nq2
    refine ga_take 0 rfl rfl rfl rfl (by kernel_rfl) (fun _ _ _ _ h => h) hK (fun w1 hS => op_pure hT rfl) ?_
    refine ga_take 1 rfl rfl rfl rfl (by kernel_rfl) (fun _ _ _ _ h => h) hK (fun w1 hS => op_pure hT rfl) ?_
    refine ga_take 2 rfl rfl rfl rfl (by kernel_rfl) (fun _ _ _ _ h => h) hK (fun w1 hS => op_fieldB 0 rfl Tryd.underlying116 rfl el31 rfl rfl) ?_
    refine ga_take 3 rfl rfl rfl rfl (by kernel_rfl) (fun _ _ _ _ h => h) hK (fun w1 hS => op_loadB 0 hT hS rfl rfl rfl rfl rfl rfl) ?_
    refine ga_take 4 rfl rfl rfl rfl (by kernel_rfl) (fun _ _ _ _ h => h) hK (fun w1 hS => op_pure hT rfl) ?_
    refine ga_take 5 rfl rfl rfl rfl (by kernel_rfl) (fun _ _ _ _ h => h) hK (fun w1 hS => op_pure hT rfl) ?_
    refine ga_take 6 rfl rfl rfl rfl (by kernel_rfl) (fun _ _ _ _ h => h) hK (fun w1 hS => op_pure hT rfl) ?_
    refine ga_split (t := 18) rfl (fun c18 => ?_) (fun c18 => ?_)
    · try simp only [decide_eq_true_eq, decide_eq_false_iff_not, Bool.not_eq_true', Bool.not_eq_false', Int.not_lt, Int.not_le, Nat.not_lt, Nat.not_le, Bool.true_eq, Bool.false_eq, reduceCtorEq] at c18
      refine ga_pass 7 rfl rfl rfl rfl rfl rfl rfl (by kernel_rfl) (fun _ _ _ _ h => h) hK ?_
      refine ga_pass 8 rfl rfl rfl rfl rfl rfl rfl (by kernel_rfl) (fun _ _ _ _ h => h) hK ?_
      refine ga_pass 9 rfl rfl rfl rfl rfl rfl rfl (by kernel_rfl) (fun _ _ _ _ h => h) hK ?_
      refine ga_pass 10 rfl rfl rfl rfl rfl rfl rfl (by kernel_rfl) (fun _ _ _ _ h => h) hK ?_
      refine ga_pass 11 rfl rfl rfl rfl rfl rfl rfl (by kernel_rfl) (fun _ _ _ _ h => h) hK ?_
      refine ga_pass 12 rfl rfl rfl rfl rfl rfl rfl (by kernel_rfl) (fun _ _ _ _ h => h) hK ?_
      refine ga_pass 13 rfl rfl rfl rfl rfl rfl rfl (by kernel_rfl) (fun _ _ _ _ h => h) hK ?_
      refine ga_pass 14 rfl rfl rfl rfl rfl rfl rfl (by kernel_rfl) (fun _ _ _ _ h => h) hK ?_
      refine ga_pass 15 rfl rfl rfl rfl rfl rfl rfl (by kernel_rfl) (fun _ _ _ _ h => h) hK ?_
      refine ga_pass 16 rfl rfl rfl rfl rfl rfl rfl (by kernel_rfl) (fun _ _ _ _ h => h) hK ?_
      refine ga_pass 17 rfl rfl rfl rfl rfl rfl rfl (by kernel_rfl) (fun _ _ _ _ h => h) hK ?_
      refine ga_take 18 rfl rfl rfl rfl (by kernel_rfl) (fun _ _ _ _ h => h) hK (fun w1 hS => op_pure hT rfl) ?_
      refine ga_done (by kernel_rfl) ?_
      refine hK5 _ _ ?_
      clear hK5; try clear K5
      refine gc_cond_t rfl ?_
      refine gc_seq fun K6 hK6 => ?_
      refine gc_region ?_
      refine gl_op rfl rfl rfl (op_pure hT rfl) ?_
      refine gl_callf rfl rfl rfl rfl Tryd.func64 rfl rfl rfl (rdFail_calls g bt A l.length c ⟨0, 0, 0⟩ (80) (0) _ _ hS) ?_
      rintro _ w32 ⟨rfl, hS⟩
      refine ⟨_, rfl, ?_⟩
      refine gl_nil ?_
      refine hK6 _ _ ?_
      clear hK6; try clear K6
      refine gc_ret ?_
      try simp only [x_then_ret, x_block_ret]
      refine gk_ret0 rfl ?_
      refine ⟨rfl, ?_⟩
      rw [show rsH [65, 77, 66, 80] l = ⟨0, 80, 0⟩ by unfold rsH hdV; rw [if_neg (by omega), if_pos (by left; omega)]]
      exact hS
    · try simp only [decide_eq_true_eq, decide_eq_false_iff_not, Bool.not_eq_true', Bool.not_eq_false', Int.not_lt, Int.not_le, Nat.not_lt, Nat.not_le, Bool.true_eq, Bool.false_eq, reduceCtorEq] at c18
      refine ga_take_at 7 rfl rfl rfl rfl rfl rfl rfl (by kernel_rfl) (fun _ _ _ _ h => h) hK (fun w1 hS => op_pure hT rfl) ?_
      refine ga_take_at 8 rfl rfl rfl rfl rfl rfl rfl (by kernel_rfl) (fun _ _ _ _ h => h) hK (fun w1 hS => op_pure hT rfl) ?_
      refine ga_take_at 9 rfl rfl rfl rfl rfl rfl rfl (by kernel_rfl) (fun _ _ _ _ h => h) hK (fun w1 hS => op_fieldB 0 rfl Tryd.underlying116 rfl el31 rfl rfl) ?_
      refine ga_take_at 10 rfl rfl rfl rfl rfl rfl rfl (by kernel_rfl) (fun _ _ _ _ h => h) hK (fun w1 hS => op_loadB 0 hT hS rfl rfl rfl rfl rfl rfl) ?_
      refine ga_take_at 11 rfl rfl rfl rfl rfl rfl rfl (by kernel_rfl) (fun _ _ _ _ h => h) hK (fun w1 hS => op_slice_h hT el5 rfl rfl rfl rfl (by first | omega | (simp; omega)) (by first | omega | (simp; omega))) ?_
      refine ga_take_at 12 rfl rfl rfl rfl rfl rfl rfl (by kernel_rfl) (fun _ _ _ _ h => h) hK (fun w1 hS => op_b2s hT ((hr hS).take 4) rfl rfl rfl rfl rfl (by rw [List.length_take]; omega)) ?_
      refine ga_take_at 13 rfl rfl rfl rfl rfl rfl rfl (by kernel_rfl) (fun _ _ _ _ h => h) hK (fun w1 hS => op_pure hT rfl) ?_
      refine ga_one 14 (by kernel_rfl) rfl ?_
      refine gl_un rfl rfl rfl rfl ?_
      refine gl_lit hT hS el5 rfl rfl rfl rfl rfl rfl rfl rfl rfl fun g26 w26 hS => ?_
      have hS := hS.moveIn 1
      refine gl_nil ?_
      refine ga_next (hS.erase 1) fun hK => ?_
      refine ga_one 15 (by kernel_rfl) rfl ?_
      refine gl_un rfl rfl rfl rfl ?_
      refine gl_op rfl rfl rfl (op_b2s (l := [80]) hT (hS.rdE (i := 1) rfl) rfl rfl rfl rfl rfl (by rfl)) ?_
      refine gl_nil ?_
      refine ga_next (hS.erase 1) fun hK => ?_
      refine ga_one 16 (by kernel_rfl) rfl ?_
      refine gl_un rfl rfl rfl rfl ?_
      refine gl_op rfl rfl rfl (op_cat (a := strB [65, 77, 66]) rfl rfl rfl (by decide)) ?_
      rw [strB_append]
      refine gl_nil ?_
      refine ga_next (hS.erase 1) fun hK => ?_
      refine ga_take_at 17 rfl rfl rfl rfl rfl rfl rfl (by kernel_rfl) (fun _ _ _ _ h => h) hK (fun w1 hS => op_pure hT rfl) ?_
      refine ga_take 18 rfl rfl rfl rfl (by kernel_rfl) (fun _ _ _ _ h => h) hK (fun w1 hS => op_pure hT rfl) ?_
      refine ga_done (by kernel_rfl) ?_
      refine hK5 _ _ ?_
      clear hK5; try clear K5
      refine gc_cond rfl rfl (fun c30 => ?_) (fun c30 => ?_)
      · try simp only [decide_eq_true_eq, decide_eq_false_iff_not, Bool.not_eq_true', Bool.not_eq_false', Int.not_lt, Int.not_le, Nat.not_lt, Nat.not_le, Bool.true_eq, Bool.false_eq, reduceCtorEq] at c30
        refine gc_seq fun K7 hK7 => ?_
        refine gc_region ?_
        refine gl_op rfl rfl rfl (op_pure hT rfl) ?_
        refine gl_callf rfl rfl rfl rfl Tryd.func64 rfl rfl rfl (rdFail_calls g bt A l.length c ⟨0, 0, 0⟩ (80) (0) _ _ hS) ?_
        rintro _ w32 ⟨rfl, hS⟩
        refine ⟨_, rfl, ?_⟩
        refine gl_nil ?_
        refine hK7 _ _ ?_
        clear hK7; try clear K7
        refine gc_ret ?_
        try simp only [x_then_ret, x_block_ret]
        refine gk_ret0 rfl ?_
        refine ⟨rfl, ?_⟩
        rw [show rsH [65, 77, 66, 80] l = ⟨0, 80, 0⟩ by unfold rsH hdV; rw [if_neg (by omega), if_pos (by right; intro h; exact c30 (by rw [h]; rfl))]]
        exact hS.erase 1
      · try simp only [decide_eq_true_eq, decide_eq_false_iff_not, Bool.not_eq_true', Bool.not_eq_false', Int.not_lt, Int.not_le, Nat.not_lt, Nat.not_le, Bool.true_eq, Bool.false_eq, reduceCtorEq] at c30
        have hmm : l.take 4 = [65, 77, 66, 80] := strB_inj c30
        refine gc_skip ?_
        refine hK4 _ _ ?_
        clear hK4; try clear K4
        refine gc_seq fun K8 hK8 => ?_
        refine gc_seq fun K9 hK9 => ?_
        refine gc_region ?_
        refine gl_op rfl rfl rfl (op_pure hT rfl) ?_
        refine gl_op rfl rfl rfl (op_pure hT rfl) ?_
        refine gl_op rfl rfl rfl (op_fieldB 0 rfl Tryd.underlying116 rfl el31 rfl rfl) ?_
        refine gl_op rfl rfl rfl (op_loadB 0 hT hS rfl rfl rfl rfl rfl rfl) ?_
        refine gl_op rfl rfl rfl (op_pure hT rfl) ?_
        refine gl_op rfl rfl rfl (op_pure hT rfl) ?_
        refine gl_op rfl rfl rfl (op_pure hT rfl) ?_
        refine gl_split (t := 39) rfl (fun c39 => ?_) (fun c39 => ?_)
        · try simp only [decide_eq_true_eq, decide_eq_false_iff_not, Bool.not_eq_true', Bool.not_eq_false', Int.not_lt, Int.not_le, Nat.not_lt, Nat.not_le, Bool.true_eq, Bool.false_eq, reduceCtorEq] at c39
          refine gl_pass rfl rfl rfl rfl rfl rfl ?_
          refine gl_pass rfl rfl rfl rfl rfl rfl ?_
          refine gl_pass rfl rfl rfl rfl rfl rfl ?_
          refine gl_pass rfl rfl rfl rfl rfl rfl ?_
          refine gl_pass rfl rfl rfl rfl rfl rfl ?_
          refine gl_pass rfl rfl rfl rfl rfl rfl ?_
          refine gl_pass rfl rfl rfl rfl rfl rfl ?_
          refine gl_op rfl rfl rfl (op_pure hT rfl) ?_
          refine gl_nil ?_
          refine hK9 _ _ ?_
          clear hK9; try clear K9
          refine gc_cond_t rfl ?_
          refine gc_seq fun K10 hK10 => ?_
          refine gc_region ?_
          refine gl_op rfl rfl rfl (op_pure hT rfl) ?_
          refine gl_callf rfl rfl rfl rfl Tryd.func64 rfl rfl rfl (rdFail_calls g bt A l.length c ⟨0, 0, 0⟩ (81) (4) _ _ hS) ?_
          rintro _ w49 ⟨rfl, hS⟩
          refine ⟨_, rfl, ?_⟩
          refine gl_nil ?_
          refine hK10 _ _ ?_
          clear hK10; try clear K10
          refine gc_ret ?_
          try simp only [x_then_ret, x_block_ret]
          refine gk_ret0 rfl ?_
          refine ⟨rfl, ?_⟩
          rw [show rsH [65, 77, 66, 80] l = ⟨0, 81, 4⟩ by unfold rsH hdV; rw [if_neg (by omega), if_neg (fun h => h.elim (fun h => by omega) (fun h => h hmm)), if_pos (by left; omega)]]
          exact hS.erase 1
        · try simp only [decide_eq_true_eq, decide_eq_false_iff_not, Bool.not_eq_true', Bool.not_eq_false', Int.not_lt, Int.not_le, Nat.not_lt, Nat.not_le, Bool.true_eq, Bool.false_eq, reduceCtorEq] at c39
          refine gl_un rfl rfl rfl rfl ?_
          refine gl_op rfl rfl rfl (op_pure hT rfl) ?_
          refine gl_un rfl rfl rfl rfl ?_
          refine gl_op rfl rfl rfl (op_pure hT rfl) ?_
          refine gl_un rfl rfl rfl rfl ?_
          refine gl_op rfl rfl rfl (op_fieldB 0 rfl Tryd.underlying116 rfl el31 rfl rfl) ?_
          refine gl_un rfl rfl rfl rfl ?_
          refine gl_op rfl rfl rfl (op_loadB 0 hT hS rfl rfl rfl rfl rfl rfl) ?_
          refine gl_un rfl rfl rfl rfl ?_
          obtain ⟨ad, hA, hcl⟩ := (hr hS).at 0 (i := 4) (by omega) (by omega)
          refine gl_op rfl rfl rfl (op_indexAddr hT rfl rfl el5.cellsOf.1 el5.cellsOf.2 rfl rfl (by omega) (by omega) hA) ?_
          refine gl_un rfl rfl rfl rfl ?_
          refine gl_op rfl rfl rfl (op_load hT rfl rfl rfl rfl hcl) ?_
          refine gl_un rfl rfl rfl rfl ?_
          refine gl_op rfl rfl rfl (op_pure hT rfl) ?_
          refine gl_op rfl rfl rfl (op_pure hT rfl) ?_
          refine gl_nil ?_
          refine hK9 _ _ ?_
          clear hK9; try clear K9
          refine gc_cond rfl rfl (fun c47 => ?_) (fun c47 => ?_)
          · try simp only [decide_eq_true_eq, decide_eq_false_iff_not, Bool.not_eq_true', Bool.not_eq_false', Int.not_lt, Int.not_le, Nat.not_lt, Nat.not_le, Bool.true_eq, Bool.false_eq, reduceCtorEq] at c47
            refine gc_seq fun K11 hK11 => ?_
            refine gc_region ?_
            refine gl_op rfl rfl rfl (op_pure hT rfl) ?_
            refine gl_callf rfl rfl rfl rfl Tryd.func64 rfl rfl rfl (rdFail_calls g bt A l.length c ⟨0, 0, 0⟩ (81) (4) _ _ hS) ?_
            rintro _ w49 ⟨rfl, hS⟩
            refine ⟨_, rfl, ?_⟩
            refine gl_nil ?_
            refine hK11 _ _ ?_
            clear hK11; try clear K11
            refine gc_ret ?_
            try simp only [x_then_ret, x_block_ret]
            refine gk_ret0 rfl ?_
            refine ⟨rfl, ?_⟩
            rw [show rsH [65, 77, 66, 80] l = ⟨0, 81, 4⟩ by unfold rsH hdV; rw [if_neg (by omega), if_neg (fun h => h.elim (fun h => by omega) (fun h => h hmm)), if_pos (by right; intro h; rw [show ((4 : Int)).toNat = 4 from rfl, h] at c47; exact c47 rfl)]]
            exact hS.erase 1
          · try simp only [decide_eq_true_eq, decide_eq_false_iff_not, Bool.not_eq_true', Bool.not_eq_false', Int.not_lt, Int.not_le, Nat.not_lt, Nat.not_le, Bool.true_eq, Bool.false_eq, reduceCtorEq] at c47
            refine gc_skip ?_
            refine hK8 _ _ ?_
            clear hK8; try clear K8
            refine gc_region ?_
            refine gl_op rfl rfl rfl (op_pure hT rfl) ?_
            refine gl_op rfl rfl rfl (op_pure hT rfl) ?_
            refine gl_op rfl rfl rfl (op_fieldB 1 rfl Tryd.underlying116 rfl el3 rfl rfl) ?_
            refine gl_store 0 hS el3.cellsOf.1 el3.cellsOf.2 rfl rfl rfl rfl rfl rfl rfl rfl fun wambitref8_go_160 hS => ?_
            refine gl_nil ?_
            refine gk_end0 rfl ?_
            refine ⟨rfl, ?_⟩
            rw [show rsH [65, 77, 66, 80] l = ⟨5, 0, 0⟩ by
              unfold rsH hdV
              rw [if_neg (by omega), if_neg (fun h => h.elim (fun h => by omega) (fun h => h hmm)), if_neg]
              rintro (h | h)
              · omega
              · have e : ((l.getD 4 0).toNat : Int) = 1 := c47
                exact h (UInt8.toNat_inj.1 (by show (l.getD 4 0).toNat = 1; omega))]
            exact hS.erase 1
theorem sealedAt (A : Option Addr) (c : Nat) (l : List UInt8) (j : Nat) (w : World) {ok : Nat → Prop} (h1 : RdE w ok uB A (l.take j)) (hj : j ≤ l.length) (hb : l.length ≤ 1048576) :
    Calls Tryd.prog 19 ⟨[.slice A j c]⟩ w fun e w' => ∃ A c, e = .returned (.slice A 4 c) ∧ Owns w' w.heap.size A c 5 1 4 ((le4 (crcV (l.take j))).map uB) ∧ Below w.heap.size w w' := by
  have hl : (l.take j).length = j := by rw [List.length_take]; omega
  have h := Sealed_calls A c (l.take j) w h1 (by omega)
  rw [hl] at h
  exact h
set_option maxRecDepth 100000 in
theorem rdFoot_calls {B : Nat} {w0 : World} (g : Nat) (bt : TypeId) (A : Option Addr) (c : Nat) (l : List UInt8) (s : RS) (L : List It) (w : World) (hS0 : St B w0 w (.blk g bt (rsC A l.length c s) :: L)) {ok : Nat → Prop} (hr : Rdb B w0 ok A l) (hc : l.length ≤ c) (hb : s.e = 0 → l.length ≤ 1048576) (ha : s.e = 0 → 0 ≤ s.a ∧ s.a ≤ l.length) :
    Calls Tryd.prog 65 ⟨[.pointer (some ⟨g, 0, none⟩)]⟩ w fun en w' => en = .returned (.tuple #[]) ∧ St B w0 w' (.blk g bt (rsC A l.length c (rsT l s)) :: L) := by
  obtain ⟨sa, se, si⟩ := s
  refine gc_enter (N := 75) Tryd.func65 rfl rfl rfl [(0, _)] rfl ?_
  have hS := St.start w
  have hS : St B w0 w (.blk g bt [.slice A l.length c, .int .i64 sa, .int .i64 se, .int .i64 si] :: L) := hS0
  refine gc_seq fun K1 hK1 => ?_
  refine gc_seq fun K2 hK2 => ?_
  refine gc_region ?_
  refine gl_op rfl rfl rfl (op_pure hT rfl) ?_
  refine gl_op rfl rfl rfl (op_pure hT rfl) ?_
  refine gl_op rfl rfl rfl (op_fieldB 2 rfl Tryd.underlying116 rfl el3 rfl rfl) ?_
  refine gl_op rfl rfl rfl (op_loadB 0 hT hS rfl rfl rfl rfl rfl rfl) ?_
  refine gl_op rfl rfl rfl (op_pure hT rfl) ?_
  refine gl_nil ?_
  refine hK2 _ _ ?_
  clear hK2; try clear K2
  refine gc_cond rfl rfl (fun c6 => ?_) (fun c6 => ?_)
  · try simp only [decide_eq_true_eq, decide_eq_false_iff_not, Bool.not_eq_true', Bool.not_eq_false', Int.not_lt, Int.not_le, Nat.not_lt, Nat.not_le, Bool.true_eq, Bool.false_eq, reduceCtorEq] at c6
    refine gc_ret ?_
    try simp only [x_then_ret, x_block_ret]
    refine gk_ret0 rfl ?_
    refine ⟨rfl, ?_⟩
    unfold rsT
    rw [if_pos (by simp only; omega)]
    exact hS
  · try simp only [decide_eq_true_eq, decide_eq_false_iff_not, Bool.not_eq_true', Bool.not_eq_false', Int.not_lt, Int.not_le, Nat.not_lt, Nat.not_le, Bool.true_eq, Bool.false_eq, reduceCtorEq] at c6
    have hse : se = 0 := by omega
    subst hse
    have hb : l.length ≤ 1048576 := hb rfl
    obtain ⟨ha0, ha1⟩ := ha rfl
    simp only at ha0 ha1
    obtain ⟨j, rfl⟩ : ∃ j : Nat, sa = (j : Int) := ⟨sa.toNat, by omega⟩
    have hS : St B w0 _ (.blk g bt [.slice A l.length c, .int .i64 j, .int .i64 0, .int .i64 si] :: L) := hS
    have hT0 : rsT l ⟨j, 0, si⟩ = match tlV l j with | some (x, y) => ⟨j, x, y⟩ | none => ⟨j, 0, si⟩ := rfl
    refine gc_skip ?_
    refine hK1 _ _ ?_
    clear hK1; try clear K1
    refine gc_seq fun K3 hK3 => ?_
    refine gc_seq fun K4 hK4 => ?_
    refine gc_anyS hS (by kernel_rfl) rfl fun nq1 hK => ?_
    have hS := hS.dr nq1
    refine ga_take 0 rfl rfl rfl rfl (by kernel_rfl) (fun _ _ _ _ h => h) hK (fun w1 hS => op_pure hT rfl) ?_
    refine ga_take 1 rfl rfl rfl rfl (by kernel_rfl) (fun _ _ _ _ h => h) hK (fun w1 hS => op_pure hT rfl) ?_
    refine ga_take 2 rfl rfl rfl rfl (by kernel_rfl) (fun _ _ _ _ h => h) hK (fun w1 hS => op_fieldB 0 rfl Tryd.underlying116 rfl el31 rfl rfl) ?_
    refine ga_take 3 rfl rfl rfl rfl (by kernel_rfl) (fun _ _ _ _ h => h) hK (fun w1 hS => op_loadB 0 hT hS rfl rfl rfl rfl rfl rfl) ?_
    refine ga_take 4 rfl rfl rfl rfl (by kernel_rfl) (fun _ _ _ _ h => h) hK (fun w1 hS => op_pure hT rfl) ?_
    refine ga_take 5 rfl rfl rfl rfl (by kernel_rfl) (fun _ _ _ _ h => h) hK (fun w1 hS => op_pure hT rfl) ?_
    refine ga_take 6 rfl rfl rfl rfl (by kernel_rfl) (fun _ _ _ _ h => h) hK (fun w1 hS => op_pure hT rfl) ?_
    refine ga_take 7 rfl rfl rfl rfl (by kernel_rfl) (fun _ _ _ _ h => h) hK (fun w1 hS => op_fieldB 1 rfl Tryd.underlying116 rfl el3 rfl rfl) ?_
    refine ga_take 8 rfl rfl rfl rfl (by kernel_rfl) (fun _ _ _ _ h => h) hK (fun w1 hS => op_loadB 0 hT hS rfl rfl rfl rfl rfl rfl) ?_
    refine ga_take 9 rfl rfl rfl rfl (by kernel_rfl) (fun _ _ _ _ h => h) hK (fun w1 hS => (by first | exact op_fit hT rfl (by omega) | exact op_pure hT rfl)) ?_
    refine ga_take 10 rfl rfl rfl rfl (by kernel_rfl) (fun _ _ _ _ h => h) hK (fun w1 hS => op_pure hT rfl) ?_
    refine ga_done (by kernel_rfl) ?_
    refine hK4 _ _ ?_
    clear hK4; try clear K4
    refine gc_cond rfl rfl (fun c17 => ?_) (fun c17 => ?_)
    · try simp only [decide_eq_true_eq, decide_eq_false_iff_not, Bool.not_eq_true', Bool.not_eq_false', Int.not_lt, Int.not_le, Nat.not_lt, Nat.not_le, Bool.true_eq, Bool.false_eq, reduceCtorEq] at c17
      refine gc_seq fun K5 hK5 => ?_
      refine gc_region ?_
      refine gl_op rfl rfl rfl (op_pure hT rfl) ?_
      refine gl_op rfl rfl rfl (op_pure hT rfl) ?_
      refine gl_op rfl rfl rfl (op_pure hT rfl) ?_
      refine gl_op rfl rfl rfl (op_fieldB 1 rfl Tryd.underlying116 rfl el3 rfl rfl) ?_
      refine gl_op rfl rfl rfl (op_loadB 0 hT hS rfl rfl rfl rfl rfl rfl) ?_
      refine gl_callf rfl rfl rfl rfl Tryd.func64 rfl rfl rfl (rdFail_calls g bt A l.length c ⟨j, 0, si⟩ (10) (j) _ _ hS) ?_
      rintro _ w23 ⟨rfl, hS⟩
      refine ⟨_, rfl, ?_⟩
      refine gl_nil ?_
      refine hK5 _ _ ?_
      clear hK5; try clear K5
      refine gc_ret ?_
      try simp only [x_then_ret, x_block_ret]
      refine gk_ret0 rfl ?_
      refine ⟨rfl, ?_⟩
      rw [hT0, show tlV l j = some (10, (j : Int)) by unfold tlV; rw [if_pos (by omega)]]
      exact hS
    · try simp only [decide_eq_true_eq, decide_eq_false_iff_not, Bool.not_eq_true', Bool.not_eq_false', Int.not_lt, Int.not_le, Nat.not_lt, Nat.not_le, Bool.true_eq, Bool.false_eq, reduceCtorEq] at c17
      refine gc_skip ?_
      refine hK3 _ _ ?_
      clear hK3; try clear K3
      refine gc_seq fun K6 hK6 => ?_
      refine gc_seq fun K7 hK7 => ?_
      refine gc_anyS hS (by kernel_rfl) rfl fun nq3 hK => ?_
      have hS := hS.dr nq3
      refine ga_take 0 rfl rfl rfl rfl (by kernel_rfl) (fun _ _ _ _ h => h) hK (fun w1 hS => op_pure hT rfl) ?_
      refine ga_take 1 rfl rfl rfl rfl (by kernel_rfl) (fun _ _ _ _ h => h) hK (fun w1 hS => op_pure hT rfl) ?_
      refine ga_take 2 rfl rfl rfl rfl (by kernel_rfl) (fun _ _ _ _ h => h) hK (fun w1 hS => op_fieldB 0 rfl Tryd.underlying116 rfl el31 rfl rfl) ?_
      refine ga_take 3 rfl rfl rfl rfl (by kernel_rfl) (fun _ _ _ _ h => h) hK (fun w1 hS => op_loadB 0 hT hS rfl rfl rfl rfl rfl rfl) ?_
      refine ga_take 4 rfl rfl rfl rfl (by kernel_rfl) (fun _ _ _ _ h => h) hK (fun w1 hS => op_pure hT rfl) ?_
      refine ga_take 5 rfl rfl rfl rfl (by kernel_rfl) (fun _ _ _ _ h => h) hK (fun w1 hS => op_pure hT rfl) ?_
      refine ga_take 6 rfl rfl rfl rfl (by kernel_rfl) (fun _ _ _ _ h => h) hK (fun w1 hS => op_fieldB 1 rfl Tryd.underlying116 rfl el3 rfl rfl) ?_
      refine ga_take 7 rfl rfl rfl rfl (by kernel_rfl) (fun _ _ _ _ h => h) hK (fun w1 hS => op_loadB 0 hT hS rfl rfl rfl rfl rfl rfl) ?_
      refine ga_take 8 rfl rfl rfl rfl (by kernel_rfl) (fun _ _ _ _ h => h) hK (fun w1 hS => op_slice_h hT el5 rfl rfl rfl rfl (by first | omega | (simp; omega)) (by first | omega | (simp; omega))) ?_
      refine ga_take 11 rfl rfl rfl rfl (by kernel_rfl) (fun _ _ _ _ h => h) hK (fun w1 hS => op_pure hT rfl) ?_
      refine ga_take 12 rfl rfl rfl rfl (by kernel_rfl) (fun _ _ _ _ h => h) hK (fun w1 hS => op_pure hT rfl) ?_
      refine ga_take 13 rfl rfl rfl rfl (by kernel_rfl) (fun _ _ _ _ h => h) hK (fun w1 hS => op_fieldB 0 rfl Tryd.underlying116 rfl el31 rfl rfl) ?_
      refine ga_take 14 rfl rfl rfl rfl (by kernel_rfl) (fun _ _ _ _ h => h) hK (fun w1 hS => op_loadB 0 hT hS rfl rfl rfl rfl rfl rfl) ?_
      refine ga_take 15 rfl rfl rfl rfl (by kernel_rfl) (fun _ _ _ _ h => h) hK (fun w1 hS => op_pure hT rfl) ?_
      refine ga_take 16 rfl rfl rfl rfl (by kernel_rfl) (fun _ _ _ _ h => h) hK (fun w1 hS => op_pure hT rfl) ?_
      refine ga_take 17 rfl rfl rfl rfl (by kernel_rfl) (fun _ _ _ _ h => h) hK (fun w1 hS => op_fieldB 1 rfl Tryd.underlying116 rfl el3 rfl rfl) ?_
      refine ga_take 18 rfl rfl rfl rfl (by kernel_rfl) (fun _ _ _ _ h => h) hK (fun w1 hS => op_loadB 0 hT hS rfl rfl rfl rfl rfl rfl) ?_
      refine ga_take 19 rfl rfl rfl rfl (by kernel_rfl) (fun _ _ _ _ h => h) hK (fun w1 hS => op_pure hT rfl) ?_
      refine ga_take 20 rfl rfl rfl rfl (by kernel_rfl) (fun _ _ _ _ h => h) hK (fun w1 hS => op_pure hT rfl) ?_
      refine ga_take 21 rfl rfl rfl rfl (by kernel_rfl) (fun _ _ _ _ h => h) hK (fun w1 hS => op_fieldB 1 rfl Tryd.underlying116 rfl el3 rfl rfl) ?_
      refine ga_take 22 rfl rfl rfl rfl (by kernel_rfl) (fun _ _ _ _ h => h) hK (fun w1 hS => op_loadB 0 hT hS rfl rfl rfl rfl rfl rfl) ?_
      refine ga_take 23 rfl rfl rfl rfl (by kernel_rfl) (fun _ _ _ _ h => h) hK (fun w1 hS => (by first | exact op_fit hT rfl (by omega) | exact op_pure hT rfl)) ?_
      refine ga_take 24 rfl rfl rfl rfl (by kernel_rfl) (fun _ _ _ _ h => h) hK (fun w1 hS => op_slice_lh hT el5 rfl rfl rfl rfl rfl (by first | omega | (simp; omega)) (by first | omega | (simp; omega)) (by first | omega | (simp; omega))) ?_
      refine ga_take 25 rfl rfl rfl rfl (by kernel_rfl) (fun _ _ _ _ h => h) hK (fun w1 hS => op_b2s hT (((hr hS).drop (k := j) (cap := c) (by omega) hc).take 4) rfl rfl rfl rfl rfl (by rw [List.length_take, List.length_drop]; omega)) ?_
      refine ga_one 9 (by kernel_rfl) rfl ?_
      refine gl_callf rfl rfl rfl rfl Tryd.func19 rfl rfl rfl (sealedAt A c l j _ ((hr hS).take j) (by omega) (by omega)) ?_
      rintro _ w33 ⟨A33, c33, rfl, hr33, hb33⟩
      refine ⟨_, rfl, ?_⟩
      have hS := hS.addRow hb33 hr33
      have hS := hS.moveIn 1
      refine gl_nil ?_
      refine ga_next (hS.erase 1) fun hK => ?_
      refine ga_one 10 (by kernel_rfl) rfl ?_
      refine gl_op rfl rfl rfl (op_b2s hT (hS.rdE (i := 1) rfl) rfl rfl rfl rfl rfl (by rfl)) ?_
      refine gl_nil ?_
      refine ga_next (hS.erase 1) fun hK => ?_
      refine ga_take 26 rfl rfl rfl rfl (by kernel_rfl) (fun _ _ _ _ h => h) hK (fun w1 hS => op_pure hT rfl) ?_
      refine ga_done (by kernel_rfl) ?_
      refine hK7 _ _ ?_
      clear hK7; try clear K7
      refine gc_cond rfl rfl (fun c50 => ?_) (fun c50 => ?_)
      · try simp only [decide_eq_true_eq, decide_eq_false_iff_not, Bool.not_eq_true', Bool.not_eq_false', Int.not_lt, Int.not_le, Nat.not_lt, Nat.not_le, Bool.true_eq, Bool.false_eq, reduceCtorEq] at c50
        refine gc_seq fun K8 hK8 => ?_
        refine gc_region ?_
        refine gl_op rfl rfl rfl (op_pure hT rfl) ?_
        refine gl_op rfl rfl rfl (op_pure hT rfl) ?_
        refine gl_op rfl rfl rfl (op_pure hT rfl) ?_
        refine gl_op rfl rfl rfl (op_fieldB 1 rfl Tryd.underlying116 rfl el3 rfl rfl) ?_
        refine gl_op rfl rfl rfl (op_loadB 0 hT hS rfl rfl rfl rfl rfl rfl) ?_
        refine gl_callf rfl rfl rfl rfl Tryd.func64 rfl rfl rfl (rdFail_calls g bt A l.length c ⟨j, 0, si⟩ (16) (j) _ _ hS) ?_
        rintro _ w56 ⟨rfl, hS⟩
        refine ⟨_, rfl, ?_⟩
        refine gl_nil ?_
        refine hK8 _ _ ?_
        clear hK8; try clear K8
        refine gc_ret ?_
        try simp only [x_then_ret, x_block_ret]
        refine gk_ret0 rfl ?_
        refine ⟨rfl, ?_⟩
        rw [hT0, show tlV l j = some (16, (j : Int)) by unfold tlV; rw [if_neg (by omega), if_pos (fun h => c50 (by rw [Int.toNat_natCast] at h; rw [h]))]]
        exact hS.erase 1
      · try simp only [decide_eq_true_eq, decide_eq_false_iff_not, Bool.not_eq_true', Bool.not_eq_false', Int.not_lt, Int.not_le, Nat.not_lt, Nat.not_le, Bool.true_eq, Bool.false_eq, reduceCtorEq] at c50
        have htl : le4 (crcV (l.take ((j : Int)).toNat)) = (l.drop ((j : Int)).toNat).take 4 := by rw [Int.toNat_natCast]; exact strB_inj c50
        refine gc_skip ?_
        refine hK6 _ _ ?_
        clear hK6; try clear K6
        refine gc_seq fun K9 hK9 => ?_
        refine gc_anyS hS (by kernel_rfl) rfl fun nq5 hK => ?_
        have hS := hS.dr nq5
        refine ga_take 0 rfl rfl rfl rfl (by kernel_rfl) (fun _ _ _ _ h => h) hK (fun w1 hS => op_pure hT rfl) ?_
        refine ga_take 1 rfl rfl rfl rfl (by kernel_rfl) (fun _ _ _ _ h => h) hK (fun w1 hS => op_pure hT rfl) ?_
        refine ga_take 2 rfl rfl rfl rfl (by kernel_rfl) (fun _ _ _ _ h => h) hK (fun w1 hS => op_fieldB 0 rfl Tryd.underlying116 rfl el31 rfl rfl) ?_
        refine ga_take 3 rfl rfl rfl rfl (by kernel_rfl) (fun _ _ _ _ h => h) hK (fun w1 hS => op_loadB 0 hT hS rfl rfl rfl rfl rfl rfl) ?_
        refine ga_take 4 rfl rfl rfl rfl (by kernel_rfl) (fun _ _ _ _ h => h) hK (fun w1 hS => op_pure hT rfl) ?_
        refine ga_take 5 rfl rfl rfl rfl (by kernel_rfl) (fun _ _ _ _ h => h) hK (fun w1 hS => op_pure hT rfl) ?_
        refine ga_take 6 rfl rfl rfl rfl (by kernel_rfl) (fun _ _ _ _ h => h) hK (fun w1 hS => op_pure hT rfl) ?_
        refine ga_take 7 rfl rfl rfl rfl (by kernel_rfl) (fun _ _ _ _ h => h) hK (fun w1 hS => op_fieldB 1 rfl Tryd.underlying116 rfl el3 rfl rfl) ?_
        refine ga_take 8 rfl rfl rfl rfl (by kernel_rfl) (fun _ _ _ _ h => h) hK (fun w1 hS => op_loadB 0 hT hS rfl rfl rfl rfl rfl rfl) ?_
        refine ga_take 9 rfl rfl rfl rfl (by kernel_rfl) (fun _ _ _ _ h => h) hK (fun w1 hS => (by first | exact op_fit hT rfl (by omega) | exact op_pure hT rfl)) ?_
        refine ga_take 10 rfl rfl rfl rfl (by kernel_rfl) (fun _ _ _ _ h => h) hK (fun w1 hS => op_pure hT rfl) ?_
        refine ga_done (by kernel_rfl) ?_
        refine hK9 _ _ ?_
        clear hK9; try clear K9
        refine gc_cond rfl rfl (fun c67 => ?_) (fun c67 => ?_)
        · try simp only [decide_eq_true_eq, decide_eq_false_iff_not, Bool.not_eq_true', Bool.not_eq_false', Int.not_lt, Int.not_le, Nat.not_lt, Nat.not_le, Bool.true_eq, Bool.false_eq, reduceCtorEq] at c67
          refine gc_region ?_
          refine gl_op rfl rfl rfl (op_pure hT rfl) ?_
          refine gl_op rfl rfl rfl (op_pure hT rfl) ?_
          refine gl_op rfl rfl rfl (op_pure hT rfl) ?_
          refine gl_op rfl rfl rfl (op_fieldB 1 rfl Tryd.underlying116 rfl el3 rfl rfl) ?_
          refine gl_op rfl rfl rfl (op_loadB 0 hT hS rfl rfl rfl rfl rfl rfl) ?_
          first | refine gl_fit hT rfl rfl rfl rfl (by omega) ?_ | refine gl_op rfl rfl rfl (op_pure hT rfl) ?_
          refine gl_callf rfl rfl rfl rfl Tryd.func64 rfl rfl rfl (rdFail_calls g bt A l.length c ⟨j, 0, si⟩ (82) (j + 4) _ _ hS) ?_
          rintro _ w74 ⟨rfl, hS⟩
          refine ⟨_, rfl, ?_⟩
          refine gl_nil ?_
          refine gk_end0 rfl ?_
          refine ⟨rfl, ?_⟩
          first
            | (rw [hT0, show tlV l j = some (82, (j : Int) + 4) by unfold tlV; rw [if_neg (by omega), if_neg (fun h => h htl), if_pos (by omega)]]; exact hS.erase 1)
            | (rw [hT0, show tlV l j = none by unfold tlV; rw [if_neg (by omega), if_neg (fun h => h htl), if_neg (by omega)]]; exact hS.erase 1)
        · try simp only [decide_eq_true_eq, decide_eq_false_iff_not, Bool.not_eq_true', Bool.not_eq_false', Int.not_lt, Int.not_le, Nat.not_lt, Nat.not_le, Bool.true_eq, Bool.false_eq, reduceCtorEq] at c67
          refine gc_skip ?_
          refine gk_end0 rfl ?_
          refine ⟨rfl, ?_⟩
          first
            | (rw [hT0, show tlV l j = some (82, (j : Int) + 4) by unfold tlV; rw [if_neg (by omega), if_neg (fun h => h htl), if_pos (by omega)]]; exact hS.erase 1)
            | (rw [hT0, show tlV l j = none by unfold tlV; rw [if_neg (by omega), if_neg (fun h => h htl), if_neg (by omega)]]; exact hS.erase 1)
end Go.Proofs.YtnomlloaahoceaaDoor

