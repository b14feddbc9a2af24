/- Contracts of functions that CodeProps reaches, and words to say them. No condition. -/
import Derived.Test.YtnomlloaahoceaaDoorZ07
import Derived.Laws.StructEq
import Derived.Test.YtnomlloaahoceaaDoorZ09
/- Plain words for chapter 7: rows and windows. No program in sight; no condition. -/
namespace Go.Proofs.YtnomlloaahoceaaDoor
set_option linter.unusedVariables false
set_option linter.unusedSimpArgs false
@[reducible] def fV (b : Nat) : Value := .float .f64 b
@[reducible] def cV (z : Nat × Nat) : Value := .complex .f64 z.1 z.2
structure Sp where
  c : Int
  y : Int
  x : Int
structure Se where
  at_ : Sp
  p : Int
  q : Int
def wholeV (L : Ly) (s : Sh) (nw nb nz nzb : Nat) : Bool := decide ((nw : Int) = (listsV L s).1.1) && decide ((nb : Int) = (listsV L s).1.2.1) && decide ((nz : Int) = (listsV L s).1.2.2.1) && decide ((nzb : Int) = (listsV L s).1.2.2.2)
structure Rw where
  cols : List Int
  w : List Nat
  b : Nat
  e : Int
end Go.Proofs.YtnomlloaahoceaaDoor


/- Plain words for chapter 6: networks and questions. No program in sight; no condition. -/
namespace Go.Proofs.YtnomlloaahoceaaDoor
set_option linter.unusedVariables false
set_option linter.unusedSimpArgs false
structure Lx where
  L : Ly
  lw : List Nat
  lb : List Nat
  lz : List (Nat × Nat)
  lzb : List (Nat × Nat)
@[reducible] def lxC (x : Lx) : List Value := lyC x.L
def numsV (l : List Nat) : Bool := l.all nmB
def parsV (l : List (Nat × Nat)) : Bool := l.all fun z => nmB z.1 && nmB z.2
def layV (x : Lx) (s : Sh) : Int :=
  if (listsV x.L s).2 ≠ 0 then (listsV x.L s).2 else if wholeV x.L s x.lw.length x.lb.length x.lz.length x.lzb.length = false then 63 else
  if (numsV x.lw && numsV x.lb && parsV x.lz && parsV x.lzb) = false then 64 else 0
def wtsV (x : Lx) : Int := x.lw.length + x.lb.length + 2 * (x.lz.length + x.lzb.length)
deriving instance DecidableEq for Sh
def shpGo (i : Nat) (ss : List Sh) (w : Int) : List Lx → Int × Int
  | [] => (0, 0)
  | x :: xs =>
    if layV x (ss.getD i ⟨0, 0, 0⟩) ≠ 0 then (layV x (ss.getD i ⟨0, 0, 0⟩), i + 1) else
    if x.L.k = 5 ∧ ((i : Int) < x.L.fr ∨ ss.getD x.L.fr.toNat ⟨0, 0, 0⟩ ≠ ss.getD i ⟨0, 0, 0⟩) then (66, i + 1) else
    if 65536 < w + wtsV x then (65, i + 1) else shpGo (i + 1) (ss ++ [(outV x.L (ss.getD i ⟨0, 0, 0⟩)).1]) (w + wtsV x) xs
def shapesV (s : Sh) (xs : List Lx) : Int × Int := if (sizeV s).2 ≠ 0 then ((sizeV s).2, 0) else if 64 < xs.length then (65, 0) else shpGo 0 [s] 0 xs
theorem layV_0 {x : Lx} {s : Sh} (h : layV x s = 0) : (outV x.L s).2 = 0 := by
  unfold layV at h
  by_cases h1 : (listsV x.L s).2 ≠ 0
  · rw [if_pos h1] at h; exact absurd h h1
  · have h2 : (listsV x.L s).2 = 0 := by simpa using h1
    unfold listsV at h2
    by_cases h3 : (outV x.L s).2 ≠ 0
    · rw [if_pos h3] at h2; exact h2
    · simpa using h3
theorem numsV_at {l : List Nat} {i : Nat} {u : Nat} (h : l[i]? = some u) : numsV (l.take (i + 1)) = (numsV (l.take i) && nmB u) := by
  unfold numsV; rw [List.take_add_one, h]; simp
theorem parsV_at {l : List (Nat × Nat)} {i : Nat} {u : Nat × Nat} (h : l[i]? = some u) : parsV (l.take (i + 1)) = (parsV (l.take i) && (nmB u.1 && nmB u.2)) := by
  unfold parsV; rw [List.take_add_one, h]; simp
theorem numsV_no {l : List Nat} {u : Nat} (h : u ∈ l) (hu : nmB u = false) : numsV l = false := by
  unfold numsV
  rw [List.all_eq_false]
  exact ⟨u, h, by simp [hu]⟩
theorem parsV_no {l : List (Nat × Nat)} {u : Nat × Nat} (h : u ∈ l) (hu : (nmB u.1 && nmB u.2) = false) : parsV l = false := by
  unfold parsV
  rw [List.all_eq_false]
  exact ⟨u, h, by simpa using hu⟩
def listV (l : List Nat) (n : Int) : Int := if (l.length : Int) ≠ n then 63 else if numsV l = false then 64 else 0
def listsGo (n at_ : Int) : List (List Nat) → Int × Int
  | [] => (0, 0)
  | l :: ls => if listV l n ≠ 0 then (listV l n, at_) else listsGo n (at_ + 1) ls
structure Px where
  C : List Nat
  G : List (List Nat)
  T : Int
  M : List (List Nat)
  K : Int
  D : Int
  S : Int
def propV (p : Px) (n out : Int) : Int × Int :=
  if n < 1 ∨ 256 < n ∨ out < 1 ∨ 256 < out then (1, 0) else
  if listV p.C n ≠ 0 then (listV p.C n, 0) else
  if 256 < p.G.length then (65, 0) else
  if (listsGo n 1 p.G).1 ≠ 0 then listsGo n 1 p.G else
  if p.T < -1 ∨ out ≤ p.T then (68, 0) else
  if 64 < p.M.length then (65, 0) else
  if (listsGo (out + 1) (1 + p.G.length) p.M).1 ≠ 0 then listsGo (out + 1) (1 + p.G.length) p.M else
  if p.M.length = 0 ∧ (p.T < 0 ∨ out = 1) then (68, 0) else
  if p.K < 1 ∨ 8 < p.K ∨ p.D < 0 ∨ 8 < p.D ∨ p.S < 1 ∨ 1024 < p.S then (69, 0) else (0, 0)
end Go.Proofs.YtnomlloaahoceaaDoor


/- Our own words: a new map, a slice's literal of two elements of several cells, structs of whole numbers compared. Nothing here speaks of a statement; no condition. -/
namespace Go.Proofs.YtnomlloaahoceaaDoor
open Go.RowKit
set_option linter.unusedVariables false
set_option linter.unusedSimpArgs false
section
variable {P : Program} {N : Nt} {e : Env} {Q : Exit → Act → World → Prop} {w w0 : World} {T : TyTab} {B : Nat} {L : List It}
theorem gl_map {ops : Array Oper} {o : Oper} {rest : List Oper} {d : Nat} {t : TypeId}
    (hS : St B w0 w L) (hd : o.dst = some d) (hg : o.guard = none) (hN : Nat.ble (d + 1) N = true) (ho : o.op = .makeMap t none)
    (h : ∀ g w', St B w0 w' (L ++ [.obj g (.map #[] 0)]) → GL P N ops ((d, .map (some g)) :: e) rest Q w') : GL P N ops e (o :: rest) Q w := by
  have hrun : ∀ a, Fr N a e → (execOp a.eval o).run P w = .ok (.value (.map (some w.heap.size))) (w.alloc (.map #[] 0)) := by
    intro a ha
    simp [execOp, ho, Instr.makeMap, newObj, Sem.run]
  refine gl_step hd (Nat.le_of_ble_eq_true hN) hg hrun (h _ _ (hS.add rfl rfl rfl (by simp) (fun b hb => Below.heap_alloc _ _ b hb) ?_ ?_))
  · exact ⟨hS.size, heap_alloc_new w _⟩
  · rintro b rfl; exact Nat.le_refl _
structure ThreeInts (P : Program) (t : TypeId) (f0 f1 f2 : Field) : Prop where
  fs : P.fieldsOf t = #[f0, f1, f2]
  ty : P.underlying t = some (.struct #[f0, f1, f2])
  n0 : f0.name ≠ "_"
  n1 : f1.name ≠ "_"
  n2 : f2.name ≠ "_"
  t0 : P.underlying f0.type = some (.int .i64)
  t1 : P.underlying f1.type = some (.int .i64)
  t2 : P.underlying f2.type = some (.int .i64)
  o0 : f0.offset = 0
  o1 : f1.offset = 1
  o2 : f2.offset = 2
  st : P.stoodInHeld t = false
  gd : P.eqGuardType P.depth t = false
theorem run_part1 {t : TypeId} {cs : Array Value} {j : Nat} {v : Value} (ht : P.underlying t = some (.int .i64)) (hv : cs[j]? = some v) : (part t cs j).run P w = .ok v w := by
  simp [part, run_isAgg ht, isAggD, hv, Sem.run_bind]
theorem run_eq3 {t : TypeId} {f0 f1 f2 : Field} (h : ThreeInts P t f0 f1 f2) (a b c a' b' c' : Int) :
    (Op.equalIn 10000 t (.agg #[.int .i64 a, .int .i64 b, .int .i64 c]) (.agg #[.int .i64 a', .int .i64 b', .int .i64 c'])).run P w = .ok (decide (a = a' ∧ b = b' ∧ c = c')) w := by
  have i0 : ∀ a b : Int, (Op.equalIn 9999 f0.type (.int .i64 a) (.int .i64 b)).run P w = .ok (a == b) w := fun a b => run_equalIn_int w 9998 f0.type .i64 .i64 a b h.t0
  have i1 : ∀ a b : Int, (Op.equalIn 9999 f1.type (.int .i64 a) (.int .i64 b)).run P w = .ok (a == b) w := fun a b => run_equalIn_int w 9998 f1.type .i64 .i64 a b h.t1
  have i2 : ∀ a b : Int, (Op.equalIn 9999 f2.type (.int .i64 a) (.int .i64 b)).run P w = .ok (a == b) w := fun a b => run_equalIn_int w 9998 f2.type .i64 .i64 a b h.t2
  rw [run_equalIn_agg w 9999 t _ _ (by rw [h.fs]; exact h.ty) h.st, h.fs]
  simp only [Op.eqFields, h.n0, h.n1, h.n2, h.o0, h.o1, h.o2, ne_eq, not_false_eq_true, if_true, Sem.run_bind, run_part1 (w := w) (v := Value.int .i64 a) h.t0 (show (#[Value.int .i64 a, .int .i64 b, .int .i64 c] : Array Value)[0]? = some _ from rfl),
    run_part1 (w := w) (v := Value.int .i64 a') h.t0 (show (#[Value.int .i64 a', .int .i64 b', .int .i64 c'] : Array Value)[0]? = some _ from rfl), Result.andThen_ok]
  rw [i0]
  simp only [Result.andThen_ok]
  by_cases e0 : a = a'
  · subst e0
    simp only [beq_self_eq_true, Bool.not_true, Bool.false_eq_true, if_false, Sem.run_bind, run_part1 (w := w) (v := Value.int .i64 b) h.t1 (show (#[Value.int .i64 a, .int .i64 b, .int .i64 c] : Array Value)[1]? = some _ from rfl),
      run_part1 (w := w) (v := Value.int .i64 b') h.t1 (show (#[Value.int .i64 a, .int .i64 b', .int .i64 c'] : Array Value)[1]? = some _ from rfl), Result.andThen_ok]
    rw [i1]
    simp only [Result.andThen_ok]
    by_cases e1 : b = b'
    · subst e1
      simp only [beq_self_eq_true, Bool.not_true, Bool.false_eq_true, if_false, Sem.run_bind, run_part1 (w := w) (v := Value.int .i64 c) h.t2 (show (#[Value.int .i64 a, .int .i64 b, .int .i64 c] : Array Value)[2]? = some _ from rfl),
        run_part1 (w := w) (v := Value.int .i64 c') h.t2 (show (#[Value.int .i64 a, .int .i64 b, .int .i64 c'] : Array Value)[2]? = some _ from rfl), Result.andThen_ok]
      rw [i2]
      simp only [Result.andThen_ok]
      by_cases e2 : c = c'
      · subst e2; simp
      · simp [e2]
    · simp [e1]
  · simp [e0]
theorem op_neq3 {o : Oper} {t yt : TypeId} {x y : Operand} {f0 f1 f2 : Field} {a b c a' b' c' : Int} (h : ThreeInts P t f0 f1 f2) (ho : o.op = .binOp .neq t x y yt) (hx : evO e x = some (.agg ⟨[.int .i64 a, .int .i64 b, .int .i64 c]⟩)) (hy : evO e y = some (.agg ⟨[.int .i64 a', .int .i64 b', .int .i64 c']⟩)) :
    OpR P N e w o (.bool (!decide (a = a' ∧ b = b' ∧ c = c'))) := by
  intro q m ha
  simp only [execOp, ho, ha.eval hx, ha.eval hy, Sem.run_bind, run_eqGuard_agg _ .neq t x y _ _ h.gd, Result.andThen_ok, run_neq_struct, run_eq3 h, Sem.run_pure]
theorem RdS.cells {α : Type} {ok : Nat → Prop} {enc : α → List Value} {sz : Nat} {A : Option Addr} {l : List α} (h : RdS w ok enc sz A l) {ad : Addr} (hA : A = some ad) {i : Nat} {x : α} (hi : l[i]? = some x) : ∀ j v, (enc x)[j]? = some v → w.cell? ((ad.add (i * sz)).add j) = some v := by
  obtain ⟨ad2, h1, h2⟩ := h.at hi
  rw [hA] at h1
  cases h1
  exact h2
theorem RdS.old {α : Type} {ok : Nat → Prop} {enc : α → List Value} {sz : Nat} {A : Option Addr} {l : List α} (h : RdS w0 ok enc sz A l) (hsz : 0 < sz) {L0 : List It} (hS : St w0.heap.size w0 w L0) : RdS w ok enc sz A l := ⟨h.1.old hsz hS, h.2⟩
end
end Go.Proofs.YtnomlloaahoceaaDoor


/- Contracts of package model: lists of numbers, layers, networks without names. No condition. -/
namespace Go.Proofs.YtnomlloaahoceaaDoor
open Go.RowKit
set_option linter.unusedVariables false
set_option linter.unusedSimpArgs false
theorem numbers_calls (A : Option Addr) (n c : Nat) (l : List Nat) (w : World) {ok : Nat → Prop} (h1 : RdE w ok fV A l) (hn : n = l.length) (hl : l.length ≤ 17592186044416) (hf : ∀ u ∈ l, u < 18446744073709551616) :
    Calls Tryd.prog 72 ⟨[.slice A n c]⟩ w fun e w' => e = .returned (.bool (numsV l)) ∧ Eqv w w' := by
  subst hn
  refine gc_enter (N := 15) Tryd.func72 rfl rfl rfl [(0, _)] rfl ?_
  refine gc_seq fun K1 hK1 => ?_
  refine gc_region ?_
  refine gl_op rfl rfl rfl (op_pure hT rfl) ?_
  refine gl_nil ?_
  refine hK1 _ _ ?_
  clear hK1; try clear K1
  refine gc_seq fun K2 hK2 => ?_
  refine gc_seq fun K3 hK3 => ?_
  refine gc_region ?_
  refine gl_op rfl rfl rfl (op_pure hT rfl) ?_
  refine gl_op rfl rfl rfl (op_pure hT rfl) ?_
  refine gl_op rfl rfl rfl (op_pure hT rfl) ?_
  refine gl_nil ?_
  refine hK3 _ _ ?_
  clear hK3; try clear K3
  refine gc_block ?_
  refine gc_loop (fun k a w' => ∃ i : Nat, Fr 15 a [(5, .slice A l.length c), (6, .int .i64 (l.length : Nat)), (7, .int .i64 (i : Nat))] ∧ i ≤ l.length ∧ k = l.length - i + 1 ∧ numsV (l.take i) = true ∧ Eqv w w') (l.length + 1) ?_ ?_ ?_
  · intro a ha; exact ⟨0, ha.sub ⟨rfl, rfl, rfl, trivial⟩, by omega, by omega, rfl, Eqv.refl _⟩
  · rintro a w ⟨i, _, h1, h2, _⟩; omega
  rintro k a _ ⟨i, hF, hi, hk, hj, n, rfl⟩
  refine gc_of hF ?_
  refine gc_seq fun K4 hK4 => ?_
  refine gc_region ?_
  refine gl_op rfl rfl rfl (op_pure hT rfl) ?_
  refine gl_nil ?_
  refine hK4 _ _ ?_
  clear hK4; try clear K4
  refine gc_seq fun K5 hK5 => ?_
  refine gc_cond rfl rfl (fun c8 => ?_) (fun c8 => ?_)
  · try simp only [decide_eq_true_eq, decide_eq_false_iff_not, Bool.not_eq_true', Bool.not_eq_false', Int.not_lt, Int.not_le, Nat.not_lt, Nat.not_le, Bool.true_eq, Bool.false_eq, reduceCtorEq] at c8
    refine gc_skip ?_
    refine hK5 _ _ ?_
    clear hK5; try clear K5
    refine gc_seq fun K6 hK6 => ?_
    refine gc_block ?_
    refine gc_seq fun K7 hK7 => ?_
    refine gc_region ?_
    have hil : i < l.length := by omega
    obtain ⟨u, hu⟩ : ∃ u, l[i]? = some u := ⟨_, List.getElem?_eq_getElem hil⟩
    have hum := List.mem_of_getElem? hu
    obtain ⟨ad, hA, hc⟩ := (h1.eqv ⟨n, rfl⟩).at 0 (i := (i : Int)) (by omega) (by omega)
    have hug : l.getD ((i : Int)).toNat 0 = u := by rw [Int.toNat_natCast, List.getD_eq_getElem?_getD, hu]; rfl
    rw [hug] at hc
    refine gl_op rfl rfl rfl (op_indexAddr hT rfl rfl el62.cellsOf.1 el62.cellsOf.2 rfl rfl (by omega) (by omega) hA) ?_
    refine gl_op rfl rfl rfl (op_load hT rfl rfl rfl rfl hc) ?_
    refine gl_op rfl rfl rfl (op_pure hT rfl) ?_
    refine gl_nil ?_
    refine hK7 _ _ ?_
    clear hK7; try clear K7
    refine gc_seq fun K8 hK8 => ?_
    refine gc_region ?_
    refine gl_op rfl rfl rfl (op_pure hT rfl) ?_
    refine gl_callf rfl rfl rfl rfl Tryd.func85 rfl rfl rfl (mnumber_calls u (hf u hum) _) ?_
    rintro _ _ ⟨rfl, n12, rfl⟩
    refine ⟨_, rfl, ?_⟩
    refine gl_op rfl rfl rfl (op_pure hT rfl) ?_
    refine gl_nil ?_
    refine hK8 _ _ ?_
    clear hK8; try clear K8
    refine gc_cond rfl rfl (fun c13 => ?_) (fun c13 => ?_)
    · try simp only [decide_eq_true_eq, decide_eq_false_iff_not, Bool.not_eq_true', Bool.not_eq_false', Int.not_lt, Int.not_le, Nat.not_lt, Nat.not_le, Bool.true_eq, Bool.false_eq, reduceCtorEq] at c13
      refine gc_seq fun K9 hK9 => ?_
      refine gc_region ?_
      refine gl_op rfl rfl rfl (op_pure hT rfl) ?_
      refine gl_nil ?_
      refine hK9 _ _ ?_
      clear hK9; try clear K9
      refine gc_ret ?_
      try simp only [x_then_ret, x_block_ret]
      refine gk_ret1 rfl rfl ?_
      exact ⟨by rw [numsV_no hum c13], Eqv.trans ⟨n, rfl⟩ ⟨_, rfl⟩⟩
    · try simp only [decide_eq_true_eq, decide_eq_false_iff_not, Bool.not_eq_true', Bool.not_eq_false', Int.not_lt, Int.not_le, Nat.not_lt, Nat.not_le, Bool.true_eq, Bool.false_eq, reduceCtorEq] at c13
      refine gc_skip ?_
      refine hK6 _ _ ?_
      clear hK6; try clear K6
      refine gc_region ?_
      first | refine gl_fit hT rfl rfl rfl rfl (by omega) ?_ | refine gl_op rfl rfl rfl (op_pure hT rfl) ?_
      refine gl_op rfl rfl rfl (op_pure hT rfl) ?_
      refine gl_nil ?_
      intro a ha
      exact ⟨i + 1, ha.sub ⟨rfl, rfl, rfl, trivial⟩, by omega, by omega, by rw [numsV_at hu, hj, c13]; rfl, Eqv.trans ⟨n, rfl⟩ ⟨_, rfl⟩⟩
  · try simp only [decide_eq_true_eq, decide_eq_false_iff_not, Bool.not_eq_true', Bool.not_eq_false', Int.not_lt, Int.not_le, Nat.not_lt, Nat.not_le, Bool.true_eq, Bool.false_eq, reduceCtorEq] at c8
    refine gc_exit ?_
    refine hK2 _ _ ?_
    clear hK2; try clear K2
    refine gc_seq fun K10 hK10 => ?_
    refine gc_region ?_
    refine gl_op rfl rfl rfl (op_pure hT rfl) ?_
    refine gl_nil ?_
    refine hK10 _ _ ?_
    clear hK10; try clear K10
    refine gc_ret ?_
    try simp only [x_then_ret, x_block_ret]
    refine gk_ret1 rfl rfl ?_
    have hie : l.take i = l := List.take_of_length_le (by omega)
    rw [hie] at hj
    exact ⟨by rw [hj], ⟨n, rfl⟩⟩
theorem parts_calls (A : Option Addr) (n c : Nat) (l : List (Nat × Nat)) (w : World) {ok : Nat → Prop} (h1 : RdE w ok cV A l) (hn : n = l.length) (hl : l.length ≤ 17592186044416) (hf : ∀ u ∈ l, u.1 < 18446744073709551616 ∧ u.2 < 18446744073709551616) :
    Calls Tryd.prog 95 ⟨[.slice A n c]⟩ w fun e w' => e = .returned (.bool (parsV l)) ∧ Eqv w w' := by
  subst hn
  refine gc_enter (N := 22) Tryd.func95 rfl rfl rfl [(0, _)] rfl ?_
  refine gc_seq fun K1 hK1 => ?_
  refine gc_region ?_
  refine gl_op rfl rfl rfl (op_pure hT rfl) ?_
  refine gl_nil ?_
  refine hK1 _ _ ?_
  clear hK1; try clear K1
  refine gc_seq fun K2 hK2 => ?_
  refine gc_seq fun K3 hK3 => ?_
  refine gc_region ?_
  refine gl_op rfl rfl rfl (op_pure hT rfl) ?_
  refine gl_op rfl rfl rfl (op_pure hT rfl) ?_
  refine gl_op rfl rfl rfl (op_pure hT rfl) ?_
  refine gl_nil ?_
  refine hK3 _ _ ?_
  clear hK3; try clear K3
  refine gc_block ?_
  refine gc_loop (fun k a w' => ∃ i : Nat, Fr 22 a [(5, .slice A l.length c), (6, .int .i64 (l.length : Nat)), (7, .int .i64 (i : Nat))] ∧ i ≤ l.length ∧ k = l.length - i + 1 ∧ parsV (l.take i) = true ∧ Eqv w w') (l.length + 1) ?_ ?_ ?_
  · intro a ha; exact ⟨0, ha.sub ⟨rfl, rfl, rfl, trivial⟩, by omega, by omega, rfl, Eqv.refl _⟩
  · rintro a w ⟨i, _, h1, h2, _⟩; omega
  rintro k a _ ⟨i, hF, hi, hk, hj, n, rfl⟩
  refine gc_of hF ?_
  refine gc_seq fun K4 hK4 => ?_
  refine gc_region ?_
  refine gl_op rfl rfl rfl (op_pure hT rfl) ?_
  refine gl_nil ?_
  refine hK4 _ _ ?_
  clear hK4; try clear K4
  refine gc_seq fun K5 hK5 => ?_
  refine gc_cond rfl rfl (fun c8 => ?_) (fun c8 => ?_)
  · try simp only [decide_eq_true_eq, decide_eq_false_iff_not, Bool.not_eq_true', Bool.not_eq_false', Int.not_lt, Int.not_le, Nat.not_lt, Nat.not_le, Bool.true_eq, Bool.false_eq, reduceCtorEq] at c8
    refine gc_skip ?_
    refine hK5 _ _ ?_
    clear hK5; try clear K5
    refine gc_seq fun K6 hK6 => ?_
    refine gc_block ?_
    refine gc_seq fun K7 hK7 => ?_
    refine gc_region ?_
    have hil : i < l.length := by omega
    obtain ⟨u, hu⟩ : ∃ u, l[i]? = some u := ⟨_, List.getElem?_eq_getElem hil⟩
    have hum := List.mem_of_getElem? hu
    obtain ⟨ad, hA, hc⟩ := (h1.eqv ⟨n, rfl⟩).at (0, 0) (i := (i : Int)) (by omega) (by omega)
    have hug : l.getD ((i : Int)).toNat (0, 0) = u := by rw [Int.toNat_natCast, List.getD_eq_getElem?_getD, hu]; rfl
    rw [hug] at hc
    refine gl_op rfl rfl rfl (op_indexAddr hT rfl rfl el102.cellsOf.1 el102.cellsOf.2 rfl rfl (by omega) (by omega) hA) ?_
    refine gl_op rfl rfl rfl (op_load hT rfl rfl rfl rfl hc) ?_
    refine gl_op rfl rfl rfl (op_pure hT rfl) ?_
    refine gl_nil ?_
    refine hK7 _ _ ?_
    clear hK7; try clear K7
    refine gc_seq fun K8 hK8 => ?_
    refine gc_region ?_
    refine gl_op rfl rfl rfl (op_pure hT rfl) ?_
    refine gl_op rfl rfl rfl (op_real rfl rfl) ?_
    refine gl_callf rfl rfl rfl rfl Tryd.func85 rfl rfl rfl (mnumber_calls u.1 (hf u hum).1 _) ?_
    rintro _ _ ⟨rfl, n13, rfl⟩
    refine ⟨_, rfl, ?_⟩
    refine gl_op rfl rfl rfl (op_pure hT rfl) ?_
    refine gl_op rfl rfl rfl (op_pure hT rfl) ?_
    refine gl_split (t := 15) rfl (fun c15 => ?_) (fun c15 => ?_)
    · try simp only [decide_eq_true_eq, decide_eq_false_iff_not, Bool.not_eq_true', Bool.not_eq_false', Int.not_lt, Int.not_le, Nat.not_lt, Nat.not_le, Bool.true_eq, Bool.false_eq, reduceCtorEq] at c15
      refine gl_pass rfl rfl rfl rfl rfl rfl ?_
      refine gl_pass rfl rfl rfl rfl rfl rfl ?_
      refine gl_pass rfl rfl rfl rfl rfl rfl ?_
      refine gl_pass rfl rfl rfl rfl rfl rfl ?_
      refine gl_op rfl rfl rfl (op_pure hT rfl) ?_
      refine gl_nil ?_
      refine hK8 _ _ ?_
      clear hK8; try clear K8
      refine gc_cond_t rfl ?_
      refine gc_seq fun K9 hK9 => ?_
      refine gc_region ?_
      refine gl_op rfl rfl rfl (op_pure hT rfl) ?_
      refine gl_nil ?_
      refine hK9 _ _ ?_
      clear hK9; try clear K9
      refine gc_ret ?_
      try simp only [x_then_ret, x_block_ret]
      refine gk_ret1 rfl rfl ?_
      exact ⟨by rw [parsV_no hum (by simp_all)], Eqv.trans ⟨n, rfl⟩ (Eqv.trans ⟨_, rfl⟩ (by first | exact ⟨_, rfl⟩ | exact Eqv.refl _))⟩
    · try simp only [decide_eq_true_eq, decide_eq_false_iff_not, Bool.not_eq_true', Bool.not_eq_false', Int.not_lt, Int.not_le, Nat.not_lt, Nat.not_le, Bool.true_eq, Bool.false_eq, reduceCtorEq] at c15
      refine gl_un rfl rfl rfl rfl ?_
      refine gl_op rfl rfl rfl (op_pure hT rfl) ?_
      refine gl_un rfl rfl rfl rfl ?_
      refine gl_op rfl rfl rfl (op_imag rfl rfl) ?_
      refine gl_un rfl rfl rfl rfl ?_
      refine gl_callf rfl rfl rfl rfl Tryd.func85 rfl rfl rfl (mnumber_calls u.2 (hf u hum).2 _) ?_
      rintro _ _ ⟨rfl, n18, rfl⟩
      refine ⟨_, rfl, ?_⟩
      refine gl_un rfl rfl rfl rfl ?_
      refine gl_op rfl rfl rfl (op_pure hT rfl) ?_
      refine gl_op rfl rfl rfl (op_pure hT rfl) ?_
      refine gl_nil ?_
      refine hK8 _ _ ?_
      clear hK8; try clear K8
      refine gc_cond rfl rfl (fun c20 => ?_) (fun c20 => ?_)
      · try simp only [decide_eq_true_eq, decide_eq_false_iff_not, Bool.not_eq_true', Bool.not_eq_false', Int.not_lt, Int.not_le, Nat.not_lt, Nat.not_le, Bool.true_eq, Bool.false_eq, reduceCtorEq] at c20
        refine gc_seq fun K10 hK10 => ?_
        refine gc_region ?_
        refine gl_op rfl rfl rfl (op_pure hT rfl) ?_
        refine gl_nil ?_
        refine hK10 _ _ ?_
        clear hK10; try clear K10
        refine gc_ret ?_
        try simp only [x_then_ret, x_block_ret]
        refine gk_ret1 rfl rfl ?_
        exact ⟨by rw [parsV_no hum (by simp_all)], Eqv.trans ⟨n, rfl⟩ (Eqv.trans ⟨_, rfl⟩ (by first | exact ⟨_, rfl⟩ | exact Eqv.refl _))⟩
      · try simp only [decide_eq_true_eq, decide_eq_false_iff_not, Bool.not_eq_true', Bool.not_eq_false', Int.not_lt, Int.not_le, Nat.not_lt, Nat.not_le, Bool.true_eq, Bool.false_eq, reduceCtorEq] at c20
        refine gc_skip ?_
        refine hK6 _ _ ?_
        clear hK6; try clear K6
        refine gc_region ?_
        first | refine gl_fit hT rfl rfl rfl rfl (by omega) ?_ | refine gl_op rfl rfl rfl (op_pure hT rfl) ?_
        refine gl_op rfl rfl rfl (op_pure hT rfl) ?_
        refine gl_nil ?_
        intro a ha
        exact ⟨i + 1, ha.sub ⟨rfl, rfl, rfl, trivial⟩, by omega, by omega, by rw [parsV_at hu, hj]; simp_all, Eqv.trans ⟨n, rfl⟩ (Eqv.trans ⟨_, rfl⟩ ⟨_, rfl⟩)⟩
  · try simp only [decide_eq_true_eq, decide_eq_false_iff_not, Bool.not_eq_true', Bool.not_eq_false', Int.not_lt, Int.not_le, Nat.not_lt, Nat.not_le, Bool.true_eq, Bool.false_eq, reduceCtorEq] at c8
    have hie : l.take i = l := List.take_of_length_le (by omega)
    rw [hie] at hj
    refine gc_exit ?_
    refine hK2 _ _ ?_
    clear hK2; try clear K2
    refine gc_seq fun K11 hK11 => ?_
    refine gc_region ?_
    refine gl_op rfl rfl rfl (op_pure hT rfl) ?_
    refine gl_nil ?_
    refine hK11 _ _ ?_
    clear hK11; try clear K11
    refine gc_ret ?_
    try simp only [x_then_ret, x_block_ret]
    refine gk_ret1 rfl rfl ?_
    exact ⟨by rw [hj], ⟨n, rfl⟩⟩
end Go.Proofs.YtnomlloaahoceaaDoor


/- Contracts of package model: layers, networks without names. No condition. -/
namespace Go.Proofs.YtnomlloaahoceaaDoor
open Go.RowKit
set_option linter.unusedVariables false
set_option linter.unusedSimpArgs false
structure LyM (w : World) (ok : Nat → Prop) (x : Lx) : Prop where
  okL : x.L.ok
  rW : RdE w ok fV x.L.W.1 x.lw
  nW : x.L.W.2.1 = x.lw.length
  rB : RdE w ok fV x.L.B.1 x.lb
  nB : x.L.B.2.1 = x.lb.length
  rZ : RdE w ok cV x.L.Z.1 x.lz
  nZ : x.L.Z.2.1 = x.lz.length
  rZB : RdE w ok cV x.L.ZB.1 x.lzb
  nZB : x.L.ZB.2.1 = x.lzb.length
  fW : ∀ u ∈ x.lw, u < 18446744073709551616
  fB : ∀ u ∈ x.lb, u < 18446744073709551616
  fZ : ∀ u ∈ x.lz, u.1 < 18446744073709551616 ∧ u.2 < 18446744073709551616
  fZB : ∀ u ∈ x.lzb, u.1 < 18446744073709551616 ∧ u.2 < 18446744073709551616
  lW : x.lw.length ≤ 17592186044416
  lB : x.lb.length ≤ 17592186044416
  lZ : x.lz.length ≤ 17592186044416
  lZB : x.lzb.length ≤ 17592186044416
theorem LyM.old {w w' : World} {ok : Nat → Prop} {x : Lx} {L0 : List It} (h : LyM w ok x) (hS : St w.heap.size w w' L0) : LyM w' ok x :=
  ⟨h.okL, h.rW.old hS, h.nW, h.rB.old hS, h.nB, h.rZ.old hS, h.nZ, h.rZB.old hS, h.nZB, h.fW, h.fB, h.fZ, h.fZB, h.lW, h.lB, h.lZ, h.lZB⟩
theorem whole_f {L : Ly} {s : Sh} {a b c d : Nat} (h : ¬ ((a : Int) = (listsV L s).1.1 ∧ (b : Int) = (listsV L s).1.2.1 ∧ (c : Int) = (listsV L s).1.2.2.1 ∧ (d : Int) = (listsV L s).1.2.2.2)) : wholeV L s a b c d = false := by
  unfold wholeV
  rw [← Bool.not_eq_true]
  intro hh
  simp only [Bool.and_eq_true, decide_eq_true_eq] at hh
  exact h ⟨hh.1.1.1, hh.1.1.2, hh.1.2, hh.2⟩
theorem whole_t {L : Ly} {s : Sh} {a b c d : Nat} (h1 : (a : Int) = (listsV L s).1.1) (h2 : (b : Int) = (listsV L s).1.2.1) (h3 : (c : Int) = (listsV L s).1.2.2.1) (h4 : (d : Int) = (listsV L s).1.2.2.2) : wholeV L s a b c d = true := by
  unfold wholeV; simp [h1, h2, h3, h4]
set_option maxRecDepth 100000 in
theorem layer_calls (x : Lx) (s : Sh) (w : World) (hs : s.ok) {ok : Nat → Prop} (D : LyM w ok x) :
    Calls Tryd.prog 86 ⟨[.agg ⟨lyC x.L⟩, .agg ⟨shC s⟩]⟩ w fun e w' => e = .returned (.int .i64 (layV x s)) ∧ Below w.heap.size w w' := by
  have hnW := D.nW
  have hnB := D.nB
  have hnZ := D.nZ
  have hnZB := D.nZB
  refine gc_enter (N := 73) Tryd.func86 rfl rfl rfl [(0, _), (1, _)] rfl ?_
  have hS := St.start w
  refine gc_seq fun K1 hK1 => ?_
  refine gc_region ?_
  refine gl_box hS rfl rfl rfl rfl rfl fun g2 w2 hS => ?_
  refine gl_box hS rfl rfl rfl rfl rfl fun g3 w3 hS => ?_
  refine gl_op rfl rfl rfl (op_pure hT rfl) ?_
  refine gl_nil ?_
  refine hK1 _ _ ?_
  clear hK1; try clear K1
  refine gc_seq fun K2 hK2 => ?_
  refine gc_region ?_
  refine gl_op rfl rfl rfl (op_loadG 0 Tryd.underlying65 rfl el65 hS rfl rfl rfl rfl rfl) ?_
  refine gl_op rfl rfl rfl (op_loadG 1 Tryd.underlying61 rfl el61 hS rfl rfl rfl rfl rfl) ?_
  refine gl_callf rfl rfl rfl rfl Tryd.func78 rfl rfl rfl (mLists_calls x.L s _ D.okL hs) ?_
  rintro _ w13 ⟨rfl, hb13⟩
  refine ⟨_, rfl, ?_⟩
  have hS := hS.grown hb13
  refine gl_op rfl rfl rfl (op_pure hT rfl) ?_
  refine gl_op rfl rfl rfl (op_pure hT rfl) ?_
  refine gl_op rfl rfl rfl (op_pure hT rfl) ?_
  refine gl_op rfl rfl rfl (op_pure hT rfl) ?_
  refine gl_op rfl rfl rfl (op_pure hT rfl) ?_
  refine gl_op rfl rfl rfl (op_pure hT rfl) ?_
  refine gl_op rfl rfl rfl (op_pure hT rfl) ?_
  refine gl_op rfl rfl rfl (op_pure hT rfl) ?_
  refine gl_op rfl rfl rfl (op_pure hT rfl) ?_
  refine gl_op rfl rfl rfl (op_pure hT rfl) ?_
  refine gl_op rfl rfl rfl (op_pure hT rfl) ?_
  refine gl_nil ?_
  refine hK2 _ _ ?_
  clear hK2; try clear K2
  refine gc_seq fun K3 hK3 => ?_
  refine gc_block ?_
  refine gc_seq fun K4 hK4 => ?_
  refine gc_region ?_
  refine gl_op rfl rfl rfl (op_pure hT rfl) ?_
  refine gl_op rfl rfl rfl (op_pure hT rfl) ?_
  refine gl_op rfl rfl rfl (op_pure hT rfl) ?_
  refine gl_nil ?_
  refine hK4 _ _ ?_
  clear hK4; try clear K4
  refine gc_cond rfl rfl (fun c19 => ?_) (fun c19 => ?_)
  · try simp only [decide_eq_true_eq, decide_eq_false_iff_not, Bool.not_eq_true', Bool.not_eq_false', Int.not_lt, Int.not_le, Nat.not_lt, Nat.not_le, Bool.true_eq, Bool.false_eq, reduceCtorEq] at c19
    refine gc_seq fun K5 hK5 => ?_
    refine gc_region ?_
    refine gl_op rfl rfl rfl (op_pure hT rfl) ?_
    refine gl_op rfl rfl rfl (op_pure hT rfl) ?_
    refine gl_nil ?_
    refine hK5 _ _ ?_
    clear hK5; try clear K5
    refine gc_ret ?_
    try simp only [x_then_ret, x_block_ret]
    refine gk_ret1 rfl rfl ?_
    exact ⟨by unfold layV; rw [if_pos c19]; rfl, hS.below⟩
  · try simp only [decide_eq_true_eq, decide_eq_false_iff_not, Bool.not_eq_true', Bool.not_eq_false', Int.not_lt, Int.not_le, Nat.not_lt, Nat.not_le, Bool.true_eq, Bool.false_eq, reduceCtorEq] at c19
    have c19' : ¬ (listsV x.L s).2 ≠ 0 := by rw [c19]; simp
    refine gc_seq fun K6 hK6 => ?_
    refine gc_region ?_
    refine gl_op rfl rfl rfl (op_fieldB 10 rfl Tryd.underlying65 rfl el22 rfl rfl) ?_
    refine gl_op rfl rfl rfl (op_loadB 0 hT hS rfl rfl rfl rfl rfl rfl) ?_
    refine gl_op rfl rfl rfl (op_pure hT rfl) ?_
    refine gl_op rfl rfl rfl (op_pure hT rfl) ?_
    refine gl_op rfl rfl rfl (op_pure hT rfl) ?_
    refine gl_op rfl rfl rfl (op_pure hT rfl) ?_
    refine gl_split (t := 29) rfl (fun c29 => ?_) (fun c29 => ?_)
    · try simp only [decide_eq_true_eq, decide_eq_false_iff_not, Bool.not_eq_true', Bool.not_eq_false', Int.not_lt, Int.not_le, Nat.not_lt, Nat.not_le, Bool.true_eq, Bool.false_eq, reduceCtorEq] at c29
      refine gl_pass rfl rfl rfl rfl rfl rfl ?_
      refine gl_pass rfl rfl rfl rfl rfl rfl ?_
      refine gl_pass rfl rfl rfl rfl rfl rfl ?_
      refine gl_pass rfl rfl rfl rfl rfl rfl ?_
      refine gl_pass rfl rfl rfl rfl rfl rfl ?_
      refine gl_op rfl rfl rfl (op_pure hT rfl) ?_
      refine gl_op rfl rfl rfl (op_pure hT rfl) ?_
      refine gl_pass rfl rfl rfl rfl rfl rfl ?_
      refine gl_pass rfl rfl rfl rfl rfl rfl ?_
      refine gl_pass rfl rfl rfl rfl rfl rfl ?_
      refine gl_pass rfl rfl rfl rfl rfl rfl ?_
      refine gl_pass rfl rfl rfl rfl rfl rfl ?_
      refine gl_op rfl rfl rfl (op_pure hT rfl) ?_
      refine gl_op rfl rfl rfl (op_pure hT rfl) ?_
      refine gl_pass rfl rfl rfl rfl rfl rfl ?_
      refine gl_pass rfl rfl rfl rfl rfl rfl ?_
      refine gl_pass rfl rfl rfl rfl rfl rfl ?_
      refine gl_pass rfl rfl rfl rfl rfl rfl ?_
      refine gl_pass rfl rfl rfl rfl rfl rfl ?_
      refine gl_op rfl rfl rfl (op_pure hT rfl) ?_
      refine gl_op rfl rfl rfl (op_pure hT rfl) ?_
      refine gl_nil ?_
      refine hK6 _ _ ?_
      clear hK6; try clear K6
      refine gc_cond_t rfl ?_
      refine gc_seq fun K7 hK7 => ?_
      refine gc_region ?_
      refine gl_op rfl rfl rfl (op_pure hT rfl) ?_
      refine gl_nil ?_
      refine hK7 _ _ ?_
      clear hK7; try clear K7
      refine gc_ret ?_
      try simp only [x_then_ret, x_block_ret]
      refine gk_ret1 rfl rfl ?_
      refine ⟨?_, hS.below⟩
      unfold layV
      rw [if_neg c19']
      first
        | (rw [if_pos (whole_f (by omega))]; done)
        | (rw [if_neg (by rw [whole_t (by omega) (by omega) (by omega) (by omega)]; simp), if_pos (by simp_all)]; done)
        | (rw [if_neg (by rw [whole_t (by omega) (by omega) (by omega) (by omega)]; simp), if_neg (by simp_all)]; done)
        | trace_state
    · try simp only [decide_eq_true_eq, decide_eq_false_iff_not, Bool.not_eq_true', Bool.not_eq_false', Int.not_lt, Int.not_le, Nat.not_lt, Nat.not_le, Bool.true_eq, Bool.false_eq, reduceCtorEq] at c29
      refine gl_un rfl rfl rfl rfl ?_
      refine gl_op rfl rfl rfl (op_fieldB 11 rfl Tryd.underlying65 rfl el22 rfl rfl) ?_
      refine gl_un rfl rfl rfl rfl ?_
      refine gl_op rfl rfl rfl (op_loadB 0 hT hS rfl rfl rfl rfl rfl rfl) ?_
      refine gl_un rfl rfl rfl rfl ?_
      refine gl_op rfl rfl rfl (op_pure hT rfl) ?_
      refine gl_un rfl rfl rfl rfl ?_
      refine gl_op rfl rfl rfl (op_pure hT rfl) ?_
      refine gl_un rfl rfl rfl rfl ?_
      refine gl_op rfl rfl rfl (op_pure hT rfl) ?_
      refine gl_op rfl rfl rfl (op_pure hT rfl) ?_
      refine gl_op rfl rfl rfl (op_pure hT rfl) ?_
      refine gl_split (t := 36) rfl (fun c36 => ?_) (fun c36 => ?_)
      · try simp only [decide_eq_true_eq, decide_eq_false_iff_not, Bool.not_eq_true', Bool.not_eq_false', Int.not_lt, Int.not_le, Nat.not_lt, Nat.not_le, Bool.true_eq, Bool.false_eq, reduceCtorEq] at c36
        refine gl_pass rfl rfl rfl rfl rfl rfl ?_
        refine gl_pass rfl rfl rfl rfl rfl rfl ?_
        refine gl_pass rfl rfl rfl rfl rfl rfl ?_
        refine gl_pass rfl rfl rfl rfl rfl rfl ?_
        refine gl_pass rfl rfl rfl rfl rfl rfl ?_
        refine gl_op rfl rfl rfl (op_pure hT rfl) ?_
        refine gl_op rfl rfl rfl (op_pure hT rfl) ?_
        refine gl_pass rfl rfl rfl rfl rfl rfl ?_
        refine gl_pass rfl rfl rfl rfl rfl rfl ?_
        refine gl_pass rfl rfl rfl rfl rfl rfl ?_
        refine gl_pass rfl rfl rfl rfl rfl rfl ?_
        refine gl_pass rfl rfl rfl rfl rfl rfl ?_
        refine gl_op rfl rfl rfl (op_pure hT rfl) ?_
        refine gl_op rfl rfl rfl (op_pure hT rfl) ?_
        refine gl_nil ?_
        refine hK6 _ _ ?_
        clear hK6; try clear K6
        refine gc_cond_t rfl ?_
        refine gc_seq fun K8 hK8 => ?_
        refine gc_region ?_
        refine gl_op rfl rfl rfl (op_pure hT rfl) ?_
        refine gl_nil ?_
        refine hK8 _ _ ?_
        clear hK8; try clear K8
        refine gc_ret ?_
        try simp only [x_then_ret, x_block_ret]
        refine gk_ret1 rfl rfl ?_
        refine ⟨?_, hS.below⟩
        unfold layV
        rw [if_neg c19']
        first
          | (rw [if_pos (whole_f (by omega))]; done)
          | (rw [if_neg (by rw [whole_t (by omega) (by omega) (by omega) (by omega)]; simp), if_pos (by simp_all)]; done)
          | (rw [if_neg (by rw [whole_t (by omega) (by omega) (by omega) (by omega)]; simp), if_neg (by simp_all)]; done)
          | trace_state
      · try simp only [decide_eq_true_eq, decide_eq_false_iff_not, Bool.not_eq_true', Bool.not_eq_false', Int.not_lt, Int.not_le, Nat.not_lt, Nat.not_le, Bool.true_eq, Bool.false_eq, reduceCtorEq] at c36
        refine gl_un rfl rfl rfl rfl ?_
        refine gl_op rfl rfl rfl (op_fieldB 12 rfl Tryd.underlying65 rfl el63 rfl rfl) ?_
        refine gl_un rfl rfl rfl rfl ?_
        refine gl_op rfl rfl rfl (op_loadB 0 hT hS rfl rfl rfl rfl rfl rfl) ?_
        refine gl_un rfl rfl rfl rfl ?_
        refine gl_op rfl rfl rfl (op_pure hT rfl) ?_
        refine gl_un rfl rfl rfl rfl ?_
        refine gl_op rfl rfl rfl (op_pure hT rfl) ?_
        refine gl_un rfl rfl rfl rfl ?_
        refine gl_op rfl rfl rfl (op_pure hT rfl) ?_
        refine gl_op rfl rfl rfl (op_pure hT rfl) ?_
        refine gl_op rfl rfl rfl (op_pure hT rfl) ?_
        refine gl_split (t := 43) rfl (fun c43 => ?_) (fun c43 => ?_)
        · try simp only [decide_eq_true_eq, decide_eq_false_iff_not, Bool.not_eq_true', Bool.not_eq_false', Int.not_lt, Int.not_le, Nat.not_lt, Nat.not_le, Bool.true_eq, Bool.false_eq, reduceCtorEq] at c43
          refine gl_pass rfl rfl rfl rfl rfl rfl ?_
          refine gl_pass rfl rfl rfl rfl rfl rfl ?_
          refine gl_pass rfl rfl rfl rfl rfl rfl ?_
          refine gl_pass rfl rfl rfl rfl rfl rfl ?_
          refine gl_pass rfl rfl rfl rfl rfl rfl ?_
          refine gl_op rfl rfl rfl (op_pure hT rfl) ?_
          refine gl_op rfl rfl rfl (op_pure hT rfl) ?_
          refine gl_nil ?_
          refine hK6 _ _ ?_
          clear hK6; try clear K6
          refine gc_cond_t rfl ?_
          refine gc_seq fun K9 hK9 => ?_
          refine gc_region ?_
          refine gl_op rfl rfl rfl (op_pure hT rfl) ?_
          refine gl_nil ?_
          refine hK9 _ _ ?_
          clear hK9; try clear K9
          refine gc_ret ?_
          try simp only [x_then_ret, x_block_ret]
          refine gk_ret1 rfl rfl ?_
          refine ⟨?_, hS.below⟩
          unfold layV
          rw [if_neg c19']
          first
            | (rw [if_pos (whole_f (by omega))]; done)
            | (rw [if_neg (by rw [whole_t (by omega) (by omega) (by omega) (by omega)]; simp), if_pos (by simp_all)]; done)
            | (rw [if_neg (by rw [whole_t (by omega) (by omega) (by omega) (by omega)]; simp), if_neg (by simp_all)]; done)
            | trace_state
        · try simp only [decide_eq_true_eq, decide_eq_false_iff_not, Bool.not_eq_true', Bool.not_eq_false', Int.not_lt, Int.not_le, Nat.not_lt, Nat.not_le, Bool.true_eq, Bool.false_eq, reduceCtorEq] at c43
          refine gl_un rfl rfl rfl rfl ?_
          refine gl_op rfl rfl rfl (op_fieldB 13 rfl Tryd.underlying65 rfl el63 rfl rfl) ?_
          refine gl_un rfl rfl rfl rfl ?_
          refine gl_op rfl rfl rfl (op_loadB 0 hT hS rfl rfl rfl rfl rfl rfl) ?_
          refine gl_un rfl rfl rfl rfl ?_
          refine gl_op rfl rfl rfl (op_pure hT rfl) ?_
          refine gl_un rfl rfl rfl rfl ?_
          refine gl_op rfl rfl rfl (op_pure hT rfl) ?_
          refine gl_un rfl rfl rfl rfl ?_
          refine gl_op rfl rfl rfl (op_pure hT rfl) ?_
          refine gl_op rfl rfl rfl (op_pure hT rfl) ?_
          refine gl_op rfl rfl rfl (op_pure hT rfl) ?_
          refine gl_nil ?_
          refine hK6 _ _ ?_
          clear hK6; try clear K6
          refine gc_cond rfl rfl (fun c23 => ?_) (fun c23 => ?_)
          · try simp only [decide_eq_true_eq, decide_eq_false_iff_not, Bool.not_eq_true', Bool.not_eq_false', Int.not_lt, Int.not_le, Nat.not_lt, Nat.not_le, Bool.true_eq, Bool.false_eq, reduceCtorEq] at c23
            refine gc_seq fun K10 hK10 => ?_
            refine gc_region ?_
            refine gl_op rfl rfl rfl (op_pure hT rfl) ?_
            refine gl_nil ?_
            refine hK10 _ _ ?_
            clear hK10; try clear K10
            refine gc_ret ?_
            try simp only [x_then_ret, x_block_ret]
            refine gk_ret1 rfl rfl ?_
            refine ⟨?_, hS.below⟩
            unfold layV
            rw [if_neg c19']
            first
              | (rw [if_pos (whole_f (by omega))]; done)
              | (rw [if_neg (by rw [whole_t (by omega) (by omega) (by omega) (by omega)]; simp), if_pos (by simp_all)]; done)
              | (rw [if_neg (by rw [whole_t (by omega) (by omega) (by omega) (by omega)]; simp), if_neg (by simp_all)]; done)
              | trace_state
          · try simp only [decide_eq_true_eq, decide_eq_false_iff_not, Bool.not_eq_true', Bool.not_eq_false', Int.not_lt, Int.not_le, Nat.not_lt, Nat.not_le, Bool.true_eq, Bool.false_eq, reduceCtorEq] at c23
            refine gc_seq fun K11 hK11 => ?_
            refine gc_region ?_
            refine gl_op rfl rfl rfl (op_fieldB 10 rfl Tryd.underlying65 rfl el22 rfl rfl) ?_
            refine gl_op rfl rfl rfl (op_loadB 0 hT hS rfl rfl rfl rfl rfl rfl) ?_
            refine gl_callf rfl rfl rfl rfl Tryd.func72 rfl rfl rfl (numbers_calls _ _ _ x.lw _ (D.rW.old hS) D.nW D.lW D.fW) ?_
            rintro _ _ ⟨rfl, n53, rfl⟩
            refine ⟨_, rfl, ?_⟩
            have hS := hS.dr n53
            refine gl_op rfl rfl rfl (op_pure hT rfl) ?_
            refine gl_op rfl rfl rfl (op_pure hT rfl) ?_
            refine gl_split (t := 55) rfl (fun c55 => ?_) (fun c55 => ?_)
            · try simp only [decide_eq_true_eq, decide_eq_false_iff_not, Bool.not_eq_true', Bool.not_eq_false', Int.not_lt, Int.not_le, Nat.not_lt, Nat.not_le, Bool.true_eq, Bool.false_eq, reduceCtorEq] at c55
              refine gl_pass rfl rfl rfl rfl rfl rfl ?_
              refine gl_pass rfl rfl rfl rfl rfl rfl ?_
              refine gl_pass rfl rfl rfl rfl rfl rfl ?_
              refine gl_pass rfl rfl rfl rfl rfl rfl ?_
              refine gl_op rfl rfl rfl (op_pure hT rfl) ?_
              refine gl_op rfl rfl rfl (op_pure hT rfl) ?_
              refine gl_pass rfl rfl rfl rfl rfl rfl ?_
              refine gl_pass rfl rfl rfl rfl rfl rfl ?_
              refine gl_pass rfl rfl rfl rfl rfl rfl ?_
              refine gl_pass rfl rfl rfl rfl rfl rfl ?_
              refine gl_op rfl rfl rfl (op_pure hT rfl) ?_
              refine gl_op rfl rfl rfl (op_pure hT rfl) ?_
              refine gl_pass rfl rfl rfl rfl rfl rfl ?_
              refine gl_pass rfl rfl rfl rfl rfl rfl ?_
              refine gl_pass rfl rfl rfl rfl rfl rfl ?_
              refine gl_pass rfl rfl rfl rfl rfl rfl ?_
              refine gl_op rfl rfl rfl (op_pure hT rfl) ?_
              refine gl_op rfl rfl rfl (op_pure hT rfl) ?_
              refine gl_nil ?_
              refine hK11 _ _ ?_
              clear hK11; try clear K11
              refine gc_cond_t rfl ?_
              refine gc_seq fun K12 hK12 => ?_
              refine gc_region ?_
              refine gl_op rfl rfl rfl (op_pure hT rfl) ?_
              refine gl_nil ?_
              refine hK12 _ _ ?_
              clear hK12; try clear K12
              refine gc_ret ?_
              try simp only [x_then_ret, x_block_ret]
              refine gk_ret1 rfl rfl ?_
              refine ⟨?_, hS.below⟩
              unfold layV
              rw [if_neg c19']
              first
                | (rw [if_pos (whole_f (by omega))]; done)
                | (rw [if_neg (by rw [whole_t (by omega) (by omega) (by omega) (by omega)]; simp), if_pos (by simp_all)]; done)
                | (rw [if_neg (by rw [whole_t (by omega) (by omega) (by omega) (by omega)]; simp), if_neg (by simp_all)]; done)
                | trace_state
            · try simp only [decide_eq_true_eq, decide_eq_false_iff_not, Bool.not_eq_true', Bool.not_eq_false', Int.not_lt, Int.not_le, Nat.not_lt, Nat.not_le, Bool.true_eq, Bool.false_eq, reduceCtorEq] at c55
              refine gl_un rfl rfl rfl rfl ?_
              refine gl_op rfl rfl rfl (op_fieldB 11 rfl Tryd.underlying65 rfl el22 rfl rfl) ?_
              refine gl_un rfl rfl rfl rfl ?_
              refine gl_op rfl rfl rfl (op_loadB 0 hT hS rfl rfl rfl rfl rfl rfl) ?_
              refine gl_un rfl rfl rfl rfl ?_
              refine gl_callf rfl rfl rfl rfl Tryd.func72 rfl rfl rfl (numbers_calls _ _ _ x.lb _ (D.rB.old hS) D.nB D.lB D.fB) ?_
              rintro _ _ ⟨rfl, n58, rfl⟩
              refine ⟨_, rfl, ?_⟩
              have hS := hS.dr n58
              refine gl_un rfl rfl rfl rfl ?_
              refine gl_op rfl rfl rfl (op_pure hT rfl) ?_
              refine gl_op rfl rfl rfl (op_pure hT rfl) ?_
              refine gl_op rfl rfl rfl (op_pure hT rfl) ?_
              refine gl_split (t := 61) rfl (fun c61 => ?_) (fun c61 => ?_)
              · try simp only [decide_eq_true_eq, decide_eq_false_iff_not, Bool.not_eq_true', Bool.not_eq_false', Int.not_lt, Int.not_le, Nat.not_lt, Nat.not_le, Bool.true_eq, Bool.false_eq, reduceCtorEq] at c61
                refine gl_pass rfl rfl rfl rfl rfl rfl ?_
                refine gl_pass rfl rfl rfl rfl rfl rfl ?_
                refine gl_pass rfl rfl rfl rfl rfl rfl ?_
                refine gl_pass rfl rfl rfl rfl rfl rfl ?_
                refine gl_op rfl rfl rfl (op_pure hT rfl) ?_
                refine gl_op rfl rfl rfl (op_pure hT rfl) ?_
                refine gl_pass rfl rfl rfl rfl rfl rfl ?_
                refine gl_pass rfl rfl rfl rfl rfl rfl ?_
                refine gl_pass rfl rfl rfl rfl rfl rfl ?_
                refine gl_pass rfl rfl rfl rfl rfl rfl ?_
                refine gl_op rfl rfl rfl (op_pure hT rfl) ?_
                refine gl_op rfl rfl rfl (op_pure hT rfl) ?_
                refine gl_nil ?_
                refine hK11 _ _ ?_
                clear hK11; try clear K11
                refine gc_cond_t rfl ?_
                refine gc_seq fun K13 hK13 => ?_
                refine gc_region ?_
                refine gl_op rfl rfl rfl (op_pure hT rfl) ?_
                refine gl_nil ?_
                refine hK13 _ _ ?_
                clear hK13; try clear K13
                refine gc_ret ?_
                try simp only [x_then_ret, x_block_ret]
                refine gk_ret1 rfl rfl ?_
                refine ⟨?_, hS.below⟩
                unfold layV
                rw [if_neg c19']
                first
                  | (rw [if_pos (whole_f (by omega))]; done)
                  | (rw [if_neg (by rw [whole_t (by omega) (by omega) (by omega) (by omega)]; simp), if_pos (by simp_all)]; done)
                  | (rw [if_neg (by rw [whole_t (by omega) (by omega) (by omega) (by omega)]; simp), if_neg (by simp_all)]; done)
                  | trace_state
              · try simp only [decide_eq_true_eq, decide_eq_false_iff_not, Bool.not_eq_true', Bool.not_eq_false', Int.not_lt, Int.not_le, Nat.not_lt, Nat.not_le, Bool.true_eq, Bool.false_eq, reduceCtorEq] at c61
                refine gl_un rfl rfl rfl rfl ?_
                refine gl_op rfl rfl rfl (op_fieldB 12 rfl Tryd.underlying65 rfl el63 rfl rfl) ?_
                refine gl_un rfl rfl rfl rfl ?_
                refine gl_op rfl rfl rfl (op_loadB 0 hT hS rfl rfl rfl rfl rfl rfl) ?_
                refine gl_un rfl rfl rfl rfl ?_
                refine gl_callf rfl rfl rfl rfl Tryd.func95 rfl rfl rfl (parts_calls _ _ _ x.lz _ (D.rZ.old hS) D.nZ D.lZ D.fZ) ?_
                rintro _ _ ⟨rfl, n64, rfl⟩
                refine ⟨_, rfl, ?_⟩
                have hS := hS.dr n64
                refine gl_un rfl rfl rfl rfl ?_
                refine gl_op rfl rfl rfl (op_pure hT rfl) ?_
                refine gl_op rfl rfl rfl (op_pure hT rfl) ?_
                refine gl_op rfl rfl rfl (op_pure hT rfl) ?_
                refine gl_split (t := 67) rfl (fun c67 => ?_) (fun c67 => ?_)
                · try simp only [decide_eq_true_eq, decide_eq_false_iff_not, Bool.not_eq_true', Bool.not_eq_false', Int.not_lt, Int.not_le, Nat.not_lt, Nat.not_le, Bool.true_eq, Bool.false_eq, reduceCtorEq] at c67
                  refine gl_pass rfl rfl rfl rfl rfl rfl ?_
                  refine gl_pass rfl rfl rfl rfl rfl rfl ?_
                  refine gl_pass rfl rfl rfl rfl rfl rfl ?_
                  refine gl_pass rfl rfl rfl rfl rfl rfl ?_
                  refine gl_op rfl rfl rfl (op_pure hT rfl) ?_
                  refine gl_op rfl rfl rfl (op_pure hT rfl) ?_
                  refine gl_nil ?_
                  refine hK11 _ _ ?_
                  clear hK11; try clear K11
                  refine gc_cond_t rfl ?_
                  refine gc_seq fun K14 hK14 => ?_
                  refine gc_region ?_
                  refine gl_op rfl rfl rfl (op_pure hT rfl) ?_
                  refine gl_nil ?_
                  refine hK14 _ _ ?_
                  clear hK14; try clear K14
                  refine gc_ret ?_
                  try simp only [x_then_ret, x_block_ret]
                  refine gk_ret1 rfl rfl ?_
                  refine ⟨?_, hS.below⟩
                  unfold layV
                  rw [if_neg c19']
                  first
                    | (rw [if_pos (whole_f (by omega))]; done)
                    | (rw [if_neg (by rw [whole_t (by omega) (by omega) (by omega) (by omega)]; simp), if_pos (by simp_all)]; done)
                    | (rw [if_neg (by rw [whole_t (by omega) (by omega) (by omega) (by omega)]; simp), if_neg (by simp_all)]; done)
                    | trace_state
                · try simp only [decide_eq_true_eq, decide_eq_false_iff_not, Bool.not_eq_true', Bool.not_eq_false', Int.not_lt, Int.not_le, Nat.not_lt, Nat.not_le, Bool.true_eq, Bool.false_eq, reduceCtorEq] at c67
                  refine gl_un rfl rfl rfl rfl ?_
                  refine gl_op rfl rfl rfl (op_fieldB 13 rfl Tryd.underlying65 rfl el63 rfl rfl) ?_
                  refine gl_un rfl rfl rfl rfl ?_
                  refine gl_op rfl rfl rfl (op_loadB 0 hT hS rfl rfl rfl rfl rfl rfl) ?_
                  refine gl_un rfl rfl rfl rfl ?_
                  refine gl_callf rfl rfl rfl rfl Tryd.func95 rfl rfl rfl (parts_calls _ _ _ x.lzb _ (D.rZB.old hS) D.nZB D.lZB D.fZB) ?_
                  rintro _ _ ⟨rfl, n70, rfl⟩
                  refine ⟨_, rfl, ?_⟩
                  have hS := hS.dr n70
                  refine gl_un rfl rfl rfl rfl ?_
                  refine gl_op rfl rfl rfl (op_pure hT rfl) ?_
                  refine gl_op rfl rfl rfl (op_pure hT rfl) ?_
                  refine gl_op rfl rfl rfl (op_pure hT rfl) ?_
                  refine gl_nil ?_
                  refine hK11 _ _ ?_
                  clear hK11; try clear K11
                  refine gc_cond rfl rfl (fun c50 => ?_) (fun c50 => ?_)
                  · try simp only [decide_eq_true_eq, decide_eq_false_iff_not, Bool.not_eq_true', Bool.not_eq_false', Int.not_lt, Int.not_le, Nat.not_lt, Nat.not_le, Bool.true_eq, Bool.false_eq, reduceCtorEq] at c50
                    refine gc_seq fun K15 hK15 => ?_
                    refine gc_region ?_
                    refine gl_op rfl rfl rfl (op_pure hT rfl) ?_
                    refine gl_nil ?_
                    refine hK15 _ _ ?_
                    clear hK15; try clear K15
                    refine gc_ret ?_
                    try simp only [x_then_ret, x_block_ret]
                    refine gk_ret1 rfl rfl ?_
                    refine ⟨?_, hS.below⟩
                    unfold layV
                    rw [if_neg c19']
                    first
                      | (rw [if_pos (whole_f (by omega))]; done)
                      | (rw [if_neg (by rw [whole_t (by omega) (by omega) (by omega) (by omega)]; simp), if_pos (by simp_all)]; done)
                      | (rw [if_neg (by rw [whole_t (by omega) (by omega) (by omega) (by omega)]; simp), if_neg (by simp_all)]; done)
                      | trace_state
                  · try simp only [decide_eq_true_eq, decide_eq_false_iff_not, Bool.not_eq_true', Bool.not_eq_false', Int.not_lt, Int.not_le, Nat.not_lt, Nat.not_le, Bool.true_eq, Bool.false_eq, reduceCtorEq] at c50
                    refine gc_skip ?_
                    refine hK3 _ _ ?_
                    clear hK3; try clear K3
                    refine gc_seq fun K16 hK16 => ?_
                    refine gc_region ?_
                    refine gl_op rfl rfl rfl (op_pure hT rfl) ?_
                    refine gl_nil ?_
                    refine hK16 _ _ ?_
                    clear hK16; try clear K16
                    refine gc_ret ?_
                    try simp only [x_then_ret, x_block_ret]
                    refine gk_ret1 rfl rfl ?_
                    refine ⟨?_, hS.below⟩
                    unfold layV
                    rw [if_neg c19']
                    first
                      | (rw [if_pos (whole_f (by omega))]; done)
                      | (rw [if_neg (by rw [whole_t (by omega) (by omega) (by omega) (by omega)]; simp), if_pos (by simp_all)]; done)
                      | (rw [if_neg (by rw [whole_t (by omega) (by omega) (by omega) (by omega)]; simp), if_neg (by simp_all)]; done)
                      | trace_state
theorem weights_calls (x : Lx) (w : World) {ok : Nat → Prop} (D : LyM w ok x) :
    Calls Tryd.prog 87 ⟨[.agg ⟨lyC x.L⟩]⟩ w fun e w' => e = .returned (.int .i64 (wtsV x)) ∧ Below w.heap.size w w' := by
  have hnW := D.nW
  have hnB := D.nB
  have hnZ := D.nZ
  have hnZB := D.nZB
  have hlW := D.lW
  have hlB := D.lB
  have hlZ := D.lZ
  have hlZB := D.lZB
  refine gc_enter (N := 19) Tryd.func87 rfl rfl rfl [(0, _)] rfl ?_
  have hS := St.start w
  refine gc_seq fun K1 hK1 => ?_
  refine gc_region ?_
  refine gl_box hS rfl rfl rfl rfl rfl fun g1 w1 hS => ?_
  refine gl_op rfl rfl rfl (op_pure hT rfl) ?_
  refine gl_nil ?_
  refine hK1 _ _ ?_
  clear hK1; try clear K1
  refine gc_seq fun K2 hK2 => ?_
  refine gc_region ?_
  refine gl_op rfl rfl rfl (op_fieldB 10 rfl Tryd.underlying65 rfl el22 rfl rfl) ?_
  refine gl_op rfl rfl rfl (op_loadB 0 hT hS rfl rfl rfl rfl rfl rfl) ?_
  refine gl_op rfl rfl rfl (op_pure hT rfl) ?_
  refine gl_op rfl rfl rfl (op_fieldB 11 rfl Tryd.underlying65 rfl el22 rfl rfl) ?_
  refine gl_op rfl rfl rfl (op_loadB 0 hT hS rfl rfl rfl rfl rfl rfl) ?_
  refine gl_op rfl rfl rfl (op_pure hT rfl) ?_
  first | refine gl_fit hT rfl rfl rfl rfl (by omega) ?_ | refine gl_op rfl rfl rfl (op_pure hT rfl) ?_
  refine gl_op rfl rfl rfl (op_fieldB 12 rfl Tryd.underlying65 rfl el63 rfl rfl) ?_
  refine gl_op rfl rfl rfl (op_loadB 0 hT hS rfl rfl rfl rfl rfl rfl) ?_
  refine gl_op rfl rfl rfl (op_pure hT rfl) ?_
  refine gl_op rfl rfl rfl (op_fieldB 13 rfl Tryd.underlying65 rfl el63 rfl rfl) ?_
  refine gl_op rfl rfl rfl (op_loadB 0 hT hS rfl rfl rfl rfl rfl rfl) ?_
  refine gl_op rfl rfl rfl (op_pure hT rfl) ?_
  first | refine gl_fit hT rfl rfl rfl rfl (by omega) ?_ | refine gl_op rfl rfl rfl (op_pure hT rfl) ?_
  first | refine gl_fit hT rfl rfl rfl rfl (by omega) ?_ | refine gl_op rfl rfl rfl (op_pure hT rfl) ?_
  first | refine gl_fit hT rfl rfl rfl rfl (by omega) ?_ | refine gl_op rfl rfl rfl (op_pure hT rfl) ?_
  refine gl_op rfl rfl rfl (op_pure hT rfl) ?_
  refine gl_nil ?_
  refine hK2 _ _ ?_
  clear hK2; try clear K2
  refine gc_ret ?_
  try simp only [x_then_ret, x_block_ret]
  refine gk_ret1 rfl rfl ?_
  refine ⟨?_, hS.below⟩
  unfold wtsV
  rw [hnW, hnB, hnZ, hnZB]
theorem names0_calls (n : Int) (w : World) : Calls Tryd.prog 88 ⟨[.slice none 0 0, .int .i64 n]⟩ w fun e w' => e = .returned (.int .i64 0) ∧ Below w.heap.size w w' := by
  refine gc_enter (N := 39) Tryd.func88 rfl rfl rfl [(0, _), (1, _)] rfl ?_
  have hS := St.start w
  refine gc_seq fun K1 hK1 => ?_
  refine gc_region ?_
  refine gl_op rfl rfl rfl (op_pure hT rfl) ?_
  refine gl_nil ?_
  refine hK1 _ _ ?_
  clear hK1; try clear K1
  refine gc_seq fun K2 hK2 => ?_
  refine gc_seq fun K3 hK3 => ?_
  refine gc_region ?_
  refine gl_op rfl rfl rfl (op_pure hT rfl) ?_
  refine gl_op rfl rfl rfl (op_pure hT rfl) ?_
  refine gl_op rfl rfl rfl (op_pure hT rfl) ?_
  refine gl_op rfl rfl rfl (op_pure hT rfl) ?_
  refine gl_pass rfl rfl rfl rfl rfl rfl ?_
  refine gl_pass rfl rfl rfl rfl rfl rfl ?_
  refine gl_pass rfl rfl rfl rfl rfl rfl ?_
  refine gl_pass rfl rfl rfl rfl rfl rfl ?_
  refine gl_op rfl rfl rfl (op_pure hT rfl) ?_
  refine gl_nil ?_
  refine hK3 _ _ ?_
  clear hK3; try clear K3
  refine gc_cond_f rfl ?_
  refine gc_skip ?_
  refine hK2 _ _ ?_
  clear hK2; try clear K2
  refine gc_seq fun K4 hK4 => ?_
  refine gc_region ?_
  refine gl_map hS rfl rfl rfl rfl fun g17 w17 hS => ?_
  refine gl_op rfl rfl rfl (op_pure hT rfl) ?_
  refine gl_nil ?_
  refine hK4 _ _ ?_
  clear hK4; try clear K4
  refine gc_seq fun K5 hK5 => ?_
  refine gc_seq fun K6 hK6 => ?_
  refine gc_region ?_
  refine gl_op rfl rfl rfl (op_pure hT rfl) ?_
  refine gl_op rfl rfl rfl (op_pure hT rfl) ?_
  refine gl_op rfl rfl rfl (op_pure hT rfl) ?_
  refine gl_nil ?_
  refine hK6 _ _ ?_
  clear hK6; try clear K6
  refine gc_block ?_
  refine gc_loop (fun k a w' => Fr 39 a [(19, .int .i64 0), (20, .int .i64 0)] ∧ k = 1 ∧ Below w.heap.size w w') 1 ?_ ?_ ?_
  · intro a ha; exact ⟨ha.sub ⟨rfl, rfl, trivial⟩, rfl, hS.below⟩
  · rintro a w ⟨_, h2, _⟩; omega
  rintro k a w1 ⟨hF, hk, hS2⟩
  refine gc_of hF ?_
  refine gc_seq fun K7 hK7 => ?_
  refine gc_region ?_
  refine gl_op rfl rfl rfl (op_pure hT rfl) ?_
  refine gl_nil ?_
  refine hK7 _ _ ?_
  clear hK7; try clear K7
  refine gc_seq fun K8 hK8 => ?_
  refine gc_cond_f rfl ?_
  refine gc_exit ?_
  refine hK5 _ _ ?_
  clear hK5; try clear K5
  refine gc_seq fun K9 hK9 => ?_
  refine gc_region ?_
  refine gl_op rfl rfl rfl (op_pure hT rfl) ?_
  refine gl_nil ?_
  refine hK9 _ _ ?_
  clear hK9; try clear K9
  refine gc_ret ?_
  try simp only [x_then_ret, x_block_ret]
  refine gk_ret1 rfl rfl ?_
  exact ⟨rfl, hS2⟩
end Go.Proofs.YtnomlloaahoceaaDoor

