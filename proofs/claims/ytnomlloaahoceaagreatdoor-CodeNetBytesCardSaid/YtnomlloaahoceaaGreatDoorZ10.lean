/- Contracts of functions that CodeNetBytes reaches, and words to say them. No condition. -/
import Derived.Test.YtnomlloaahoceaaGreatDoorZ08
import Derived.Test.YtnomlloaahoceaaGreatDoorZ03
import Derived.Laws.StructEq
import Derived.Test.YtnomlloaahoceaaGreatDoorZ09
/- Plain words for chapter 7: rows and windows. No program in sight; no condition. -/
namespace Go.Proofs.YtnomlloaahoceaaGreatDoor
set_option linter.unusedVariables false
set_option linter.unusedSimpArgs false
@[reducible] def fV (b : Nat) : Value := .float .f64 b
@[reducible] def cV (z : Nat × Nat) : Value := .complex .f64 z.1 z.2
structure Sp where
 c : Int
 y : Int
 x : Int
structure Se where
 at_ : Sp
 p : Int
 q : Int
def wholeV (L : Ly) (s : Sh) (nw nb nz nzb : Nat) : Bool := decide ((nw : Int) = (listsV L s).1.1) && decide ((nb : Int) = (listsV L s).1.2.1) && decide ((nz : Int) = (listsV L s).1.2.2.1) && decide ((nzb : Int) = (listsV L s).1.2.2.2)
structure Rw where
 cols : List Int
 w : List Nat
 b : Nat
 e : Int
end Go.Proofs.YtnomlloaahoceaaGreatDoor

/- Plain words for chapter 6: networks and questions. No program in sight; no condition. -/
namespace Go.Proofs.YtnomlloaahoceaaGreatDoor
set_option linter.unusedVariables false
set_option linter.unusedSimpArgs false
structure Lx where
 L : Ly
 lw : List Nat
 lb : List Nat
 lz : List (Nat × Nat)
 lzb : List (Nat × Nat)
@[reducible] def lxC (x : Lx) : List Value := lyC x.L
def numsV (l : List Nat) : Bool := l.all nmB
def parsV (l : List (Nat × Nat)) : Bool := l.all fun z => nmB z.1 && nmB z.2
def layV (x : Lx) (s : Sh) : Int :=
 if (listsV x.L s).2 ≠ 0 then (listsV x.L s).2 else if wholeV x.L s x.lw.length x.lb.length x.lz.length x.lzb.length = false then 63 else
 if (numsV x.lw && numsV x.lb && parsV x.lz && parsV x.lzb) = false then 64 else 0
def wtsV (x : Lx) : Int := x.lw.length + x.lb.length + 2 * (x.lz.length + x.lzb.length)
deriving instance DecidableEq for Sh
def shpGo (i : Nat) (ss : List Sh) (w : Int) : List Lx → Int × Int
 | [] => (0, 0)
 | x :: xs =>
  if layV x (ss.getD i ⟨0, 0, 0⟩) ≠ 0 then (layV x (ss.getD i ⟨0, 0, 0⟩), i + 1) else
  if x.L.k = 5 ∧ ((i : Int) < x.L.fr ∨ ss.getD x.L.fr.toNat ⟨0, 0, 0⟩ ≠ ss.getD i ⟨0, 0, 0⟩) then (66, i + 1) else
  if 65536 < w + wtsV x then (65, i + 1) else shpGo (i + 1) (ss ++ [(outV x.L (ss.getD i ⟨0, 0, 0⟩)).1]) (w + wtsV x) xs
def shapesV (s : Sh) (xs : List Lx) : Int × Int := if (sizeV s).2 ≠ 0 then ((sizeV s).2, 0) else if 64 < xs.length then (65, 0) else shpGo 0 [s] 0 xs
theorem layV_0 {x : Lx} {s : Sh} (h : layV x s = 0) : (outV x.L s).2 = 0 := by
 unfold layV at h
 by_cases h1 : (listsV x.L s).2 ≠ 0
 ·rw [if_pos h1] at h; exact absurd h h1
 have h2 : (listsV x.L s).2 = 0 := by simpa using h1
 unfold listsV at h2
 by_cases h3 : (outV x.L s).2 ≠ 0
 ·rw [if_pos h3] at h2; exact h2
 simpa using h3
theorem numsV_at {l : List Nat} {i : Nat} {u : Nat} (h : l[i]? = some u) : numsV (l.take (i + 1)) = (numsV (l.take i) && nmB u) := by
 unfold numsV; rw [List.take_add_one, h]; simp
theorem parsV_at {l : List (Nat × Nat)} {i : Nat} {u : Nat × Nat} (h : l[i]? = some u) : parsV (l.take (i + 1)) = (parsV (l.take i) && (nmB u.1 && nmB u.2)) := by
 unfold parsV; rw [List.take_add_one, h]; simp
theorem numsV_no {l : List Nat} {u : Nat} (h : u ∈ l) (hu : nmB u = false) : numsV l = false := by
 unfold numsV
 rw [List.all_eq_false]
 exact ⟨u, h, by simp [hu]⟩
theorem parsV_no {l : List (Nat × Nat)} {u : Nat × Nat} (h : u ∈ l) (hu : (nmB u.1 && nmB u.2) = false) : parsV l = false := by
 unfold parsV
 rw [List.all_eq_false]
 exact ⟨u, h, by simpa using hu⟩
def listV (l : List Nat) (n : Int) : Int := if (l.length : Int) ≠ n then 63 else if numsV l = false then 64 else 0
def listsGo (n at_ : Int) : List (List Nat) → Int × Int
 | [] => (0, 0)
 | l :: ls => if listV l n ≠ 0 then (listV l n, at_) else listsGo n (at_ + 1) ls
structure Px where
 C : List Nat
 G : List (List Nat)
 T : Int
 M : List (List Nat)
 K : Int
 D : Int
 S : Int
def propV (p : Px) (n out : Int) : Int × Int :=
 if n < 1 ∨ 256 < n ∨ out < 1 ∨ 256 < out then (1, 0) else
 if listV p.C n ≠ 0 then (listV p.C n, 0) else
 if 256 < p.G.length then (65, 0) else
 if (listsGo n 1 p.G).1 ≠ 0 then listsGo n 1 p.G else
 if p.T < -1 ∨ out ≤ p.T then (68, 0) else
 if 64 < p.M.length then (65, 0) else
 if (listsGo (out + 1) (1 + p.G.length) p.M).1 ≠ 0 then listsGo (out + 1) (1 + p.G.length) p.M else
 if p.M.length = 0 ∧ (p.T < 0 ∨ out = 1) then (68, 0) else
 if p.K < 1 ∨ 8 < p.K ∨ p.D < 0 ∨ 8 < p.D ∨ p.S < 1 ∨ 1024 < p.S then (69, 0) else (0, 0)
end Go.Proofs.YtnomlloaahoceaaGreatDoor

/- Our own words: a new map, a slice's literal of two elements of several cells, structs of whole numbers compared. Nothing here speaks of a statement; no condition. -/
namespace Go.Proofs.YtnomlloaahoceaaGreatDoor
open Go.RowKit
set_option linter.unusedVariables false
set_option linter.unusedSimpArgs false
section
variable {P : Program} {N : Nt} {e : Env} {Q : Exit → Act → World → Prop} {w w0 : World} {T : TyTab} {B : Nat} {L : List It}
theorem gl_map {ops : Array Oper} {o : Oper} {rest : List Oper} {d : Nat} {t : TypeId}
 (hS : St B w0 w L) (hd : o.dst = some d) (hg : o.guard = none) (hN : Nat.ble (d + 1) N = true) (ho : o.op = .makeMap t none)
 (h : ∀ g w', St B w0 w' (L ++ [.obj g (.map #[] 0)]) → GL P N ops ((d, .map (some g)) :: e) rest Q w') : GL P N ops e (o :: rest) Q w := by
 have hrun : ∀ a, Fr N a e → (execOp a.eval o).run P w = .ok (.value (.map (some w.heap.size))) (w.alloc (.map #[] 0)) := by
  intro a ha
  simp [execOp, ho, Instr.makeMap, newObj, Sem.run]
 refine gl_step hd (Nat.le_of_ble_eq_true hN) hg hrun (h _ _ (hS.add rfl rfl rfl (by simp) (fun b hb => Below.heap_alloc _ _ b hb) ?_ ?_))
 ·exact ⟨hS.size, heap_alloc_new w _⟩
 rintro b rfl; exact Nat.le_refl _
structure ThreeInts (P : Program) (t : TypeId) (f0 f1 f2 : Field) : Prop where
 fs : P.fieldsOf t = #[f0, f1, f2]
 ty : P.underlying t = some (.struct #[f0, f1, f2])
 n0 : f0.name ≠ "_"
 n1 : f1.name ≠ "_"
 n2 : f2.name ≠ "_"
 t0 : P.underlying f0.type = some (.int .i64)
 t1 : P.underlying f1.type = some (.int .i64)
 t2 : P.underlying f2.type = some (.int .i64)
 o0 : f0.offset = 0
 o1 : f1.offset = 1
 o2 : f2.offset = 2
 st : P.stoodInHeld t = false
 gd : P.eqGuardType P.depth t = false
theorem run_part1 {t : TypeId} {cs : Array Value} {j : Nat} {v : Value} (ht : P.underlying t = some (.int .i64)) (hv : cs[j]? = some v) : (part t cs j).run P w = .ok v w := by
 simp [part, run_isAgg ht, isAggD, hv, Sem.run_bind]
theorem run_eq3 {t : TypeId} {f0 f1 f2 : Field} (h : ThreeInts P t f0 f1 f2) (a b c a' b' c' : Int) :
 (Op.equalIn 10000 t (.agg #[.int .i64 a, .int .i64 b, .int .i64 c]) (.agg #[.int .i64 a', .int .i64 b', .int .i64 c'])).run P w = .ok (decide (a = a' ∧ b = b' ∧ c = c')) w := by
 have i0 : ∀ a b : Int, (Op.equalIn 9999 f0.type (.int .i64 a) (.int .i64 b)).run P w = .ok (a == b) w := fun a b => run_equalIn_int w 9998 f0.type .i64 .i64 a b h.t0
 have i1 : ∀ a b : Int, (Op.equalIn 9999 f1.type (.int .i64 a) (.int .i64 b)).run P w = .ok (a == b) w := fun a b => run_equalIn_int w 9998 f1.type .i64 .i64 a b h.t1
 have i2 : ∀ a b : Int, (Op.equalIn 9999 f2.type (.int .i64 a) (.int .i64 b)).run P w = .ok (a == b) w := fun a b => run_equalIn_int w 9998 f2.type .i64 .i64 a b h.t2
 rw [run_equalIn_agg w 9999 t _ _ (by rw [h.fs]; exact h.ty) h.st, h.fs]
 simp only [Op.eqFields, h.n0, h.n1, h.n2, h.o0, h.o1, h.o2, ne_eq, not_false_eq_true, if_true, Sem.run_bind, run_part1 (w := w) (v := Value.int .i64 a) h.t0 (show (#[Value.int .i64 a, .int .i64 b, .int .i64 c] : Array Value)[0]? = some _ from rfl),
  run_part1 (w := w) (v := Value.int .i64 a') h.t0 (show (#[Value.int .i64 a', .int .i64 b', .int .i64 c'] : Array Value)[0]? = some _ from rfl), Result.andThen_ok]
 rw [i0]
 simp only [Result.andThen_ok]
 by_cases e0 : a = a'
 ·subst e0
  simp only [beq_self_eq_true, Bool.not_true, Bool.false_eq_true, if_false, Sem.run_bind, run_part1 (w := w) (v := Value.int .i64 b) h.t1 (show (#[Value.int .i64 a, .int .i64 b, .int .i64 c] : Array Value)[1]? = some _ from rfl),
   run_part1 (w := w) (v := Value.int .i64 b') h.t1 (show (#[Value.int .i64 a, .int .i64 b', .int .i64 c'] : Array Value)[1]? = some _ from rfl), Result.andThen_ok]
  rw [i1]
  simp only [Result.andThen_ok]
  by_cases e1 : b = b'
  ·subst e1
   simp only [beq_self_eq_true, Bool.not_true, Bool.false_eq_true, if_false, Sem.run_bind, run_part1 (w := w) (v := Value.int .i64 c) h.t2 (show (#[Value.int .i64 a, .int .i64 b, .int .i64 c] : Array Value)[2]? = some _ from rfl),
    run_part1 (w := w) (v := Value.int .i64 c') h.t2 (show (#[Value.int .i64 a, .int .i64 b, .int .i64 c'] : Array Value)[2]? = some _ from rfl), Result.andThen_ok]
   rw [i2]
   simp only [Result.andThen_ok]
   by_cases e2 : c = c'
   ·subst e2; simp
   simp [e2]
  simp [e1]
 simp [e0]
theorem op_neq3 {o : Oper} {t yt : TypeId} {x y : Operand} {f0 f1 f2 : Field} {a b c a' b' c' : Int} (h : ThreeInts P t f0 f1 f2) (ho : o.op = .binOp .neq t x y yt) (hx : evO e x = some (.agg ⟨[.int .i64 a, .int .i64 b, .int .i64 c]⟩)) (hy : evO e y = some (.agg ⟨[.int .i64 a', .int .i64 b', .int .i64 c']⟩)) :
 OpR P N e w o (.bool (!decide (a = a' ∧ b = b' ∧ c = c'))) := by
 intro q m ha
 simp only [execOp, ho, ha.eval hx, ha.eval hy, Sem.run_bind, run_eqGuard_agg _ .neq t x y _ _ h.gd, Result.andThen_ok, run_neq_struct, run_eq3 h, Sem.run_pure]
theorem RdS.cells {α : Type} {ok : Nat → Prop} {enc : α → List Value} {sz : Nat} {A : Option Addr} {l : List α} (h : RdS w ok enc sz A l) {ad : Addr} (hA : A = some ad) {i : Nat} {x : α} (hi : l[i]? = some x) : ∀ j v, (enc x)[j]? = some v → w.cell? ((ad.add (i * sz)).add j) = some v := by
 obtain ⟨ad2, h1, h2⟩ := h.at hi
 rw [hA] at h1
 cases h1
 exact h2
theorem RdS.old {α : Type} {ok : Nat → Prop} {enc : α → List Value} {sz : Nat} {A : Option Addr} {l : List α} (h : RdS w0 ok enc sz A l) (hsz : 0 < sz) {L0 : List It} (hS : St w0.heap.size w0 w L0) : RdS w ok enc sz A l := ⟨h.1.old hsz hS, h.2⟩
end
end Go.Proofs.YtnomlloaahoceaaGreatDoor

/- Contracts of package model: lists of numbers, layers, networks without names. No condition. -/
namespace Go.Proofs.YtnomlloaahoceaaGreatDoor
open Go.RowKit
set_option linter.unusedVariables false
set_option linter.unusedSimpArgs false
theorem numbers_calls (A : Option Addr) (n c : Nat) (l : List Nat) (w : World) {ok : Nat → Prop} (h1 : RdE w ok fV A l) (hn : n = l.length) (hl : l.length ≤ 17592186044416) (hf : ∀ u ∈ l, u < 18446744073709551616) :
 Calls Tryz.prog 110 ⟨[.slice A n c]⟩ w fun e w' => e = .returned (.bool (numsV l)) ∧ Eqv w w' := by
 subst hn
 refine gc_enter (N := 15) Tryz.func110 rfl rfl rfl [(0, _)] rfl ?_
 refine gc_seq fun K1 hK1 => gc_region (Zp rfl (gl_nil (hK1 _ _ (gc_seq fun K2 hK2 => gc_seq fun K3 hK3 => gc_region (Zp rfl (Zp rfl (Zp rfl (gl_nil (hK3 _ _ (gc_block (gc_loop (fun k a w' => ∃ i : Nat, Fr 15 a [(5, .slice A l.length c), (6, .int .i64 (l.length : Nat)), (7, .int .i64 (i : Nat))] ∧ i ≤ l.length ∧ k = l.length - i + 1 ∧ numsV (l.take i) = true ∧ Eqv w w') (l.length + 1) ?_ ?_ ?_)))))))))))
 ·intro a ha; exact ⟨0, ha.sub ⟨rfl, rfl, rfl, trivial⟩, by omega, by omega, rfl, Eqv.refl _⟩
 ·rintro a w ⟨i, _, h1, h2, _⟩; omega
 rintro k a _ ⟨i, hF, hi, hk, hj, n, rfl⟩
 refine gc_of hF ?_
 refine gc_seq fun K4 hK4 => gc_region (Zp rfl (gl_nil (hK4 _ _ (gc_seq fun K5 hK5 => gc_cond rfl rfl (fun c8 => ?_) (fun c8 => ?_)))))
 ·simp only [NN, reduceCtorEq] at c8
  refine gc_skip (hK5 _ _ (gc_seq fun K6 hK6 => gc_block (gc_seq fun K7 hK7 => gc_region ?_)))
  have hil : i < l.length := by omega
  obtain ⟨u, hu⟩ : ∃ u, l[i]? = some u := ⟨_, List.getElem?_eq_getElem hil⟩
  have hum := List.mem_of_getElem? hu
  obtain ⟨ad, hA, hc⟩ := (h1.eqv ⟨n, rfl⟩).at 0 (i := (i : Int)) (by omega) (by omega)
  have hug : l.getD ((i : Int)).toNat 0 = u := by rw [Int.toNat_natCast, List.getD_eq_getElem?_getD, hu]; rfl
  rw [hug] at hc
  refine gl_op rfl rfl rfl (op_indexAddr hT rfl rfl el44.cellsOf.1 el44.cellsOf.2 rfl rfl (by omega) (by omega) hA) ?_
  refine gl_op rfl rfl rfl (op_load hT rfl rfl rfl rfl hc) ?_
  refine Zp rfl (gl_nil (hK7 _ _ (gc_seq fun K8 hK8 => gc_region (Zp rfl (gl_callf rfl rfl rfl rfl Tryz.func101 rfl rfl rfl (mnumber_calls u (hf u hum) _) ?_)))))
  rintro _ _ ⟨rfl, n12, rfl⟩
  refine ⟨_, rfl, ?_⟩
  refine Zp rfl (gl_nil (hK8 _ _ (gc_cond rfl rfl (fun c13 => ?_) (fun c13 => ?_))))
  ·simp only [NN, reduceCtorEq] at c13
   refine gc_seq fun K9 hK9 => gc_region (Zp rfl (gl_nil (hK9 _ _ (gc_ret ?_))))
   simp only [XR]
   refine gk_ret1 rfl rfl ?_
   exact ⟨by rw [numsV_no hum c13], Eqv.trans ⟨n, rfl⟩ ⟨_, rfl⟩⟩
  simp only [NN, reduceCtorEq] at c13
  refine gc_skip (hK6 _ _ (gc_region (Zi rfl (by omega) ?_)))
  refine Zp rfl (gl_nil ?_)
  intro a ha
  exact ⟨i + 1, ha.sub ⟨rfl, rfl, rfl, trivial⟩, by omega, by omega, by rw [numsV_at hu, hj, c13]; rfl, Eqv.trans ⟨n, rfl⟩ ⟨_, rfl⟩⟩
 simp only [NN, reduceCtorEq] at c8
 refine gc_exit ?_
 refine hK2 _ _ (gc_seq fun K10 hK10 => gc_region (Zp rfl (gl_nil (hK10 _ _ (gc_ret (gk_ret1 rfl rfl ?_))))))
 have hie : l.take i = l := List.take_of_length_le (by omega)
 rw [hie] at hj
 exact ⟨by rw [hj], ⟨n, rfl⟩⟩
theorem parts_calls (A : Option Addr) (n c : Nat) (l : List (Nat × Nat)) (w : World) {ok : Nat → Prop} (h1 : RdE w ok cV A l) (hn : n = l.length) (hl : l.length ≤ 17592186044416) (hf : ∀ u ∈ l, u.1 < 18446744073709551616 ∧ u.2 < 18446744073709551616) :
 Calls Tryz.prog 111 ⟨[.slice A n c]⟩ w fun e w' => e = .returned (.bool (parsV l)) ∧ Eqv w w' := by
 subst hn
 refine gc_enter (N := 22) Tryz.func111 rfl rfl rfl [(0, _)] rfl ?_
 refine gc_seq fun K1 hK1 => gc_region (Zp rfl (gl_nil (hK1 _ _ (gc_seq fun K2 hK2 => gc_seq fun K3 hK3 => gc_region (Zp rfl (Zp rfl (Zp rfl (gl_nil (hK3 _ _ (gc_block (gc_loop (fun k a w' => ∃ i : Nat, Fr 22 a [(5, .slice A l.length c), (6, .int .i64 (l.length : Nat)), (7, .int .i64 (i : Nat))] ∧ i ≤ l.length ∧ k = l.length - i + 1 ∧ parsV (l.take i) = true ∧ Eqv w w') (l.length + 1) ?_ ?_ ?_)))))))))))
 ·intro a ha; exact ⟨0, ha.sub ⟨rfl, rfl, rfl, trivial⟩, by omega, by omega, rfl, Eqv.refl _⟩
 ·rintro a w ⟨i, _, h1, h2, _⟩; omega
 rintro k a _ ⟨i, hF, hi, hk, hj, n, rfl⟩
 refine gc_of hF ?_
 refine gc_seq fun K4 hK4 => gc_region (Zp rfl (gl_nil (hK4 _ _ (gc_seq fun K5 hK5 => gc_cond rfl rfl (fun c8 => ?_) (fun c8 => ?_)))))
 ·simp only [NN, reduceCtorEq] at c8
  refine gc_skip (hK5 _ _ (gc_seq fun K6 hK6 => gc_block (gc_seq fun K7 hK7 => gc_region ?_)))
  have hil : i < l.length := by omega
  obtain ⟨u, hu⟩ : ∃ u, l[i]? = some u := ⟨_, List.getElem?_eq_getElem hil⟩
  have hum := List.mem_of_getElem? hu
  obtain ⟨ad, hA, hc⟩ := (h1.eqv ⟨n, rfl⟩).at (0, 0) (i := (i : Int)) (by omega) (by omega)
  have hug : l.getD ((i : Int)).toNat (0, 0) = u := by rw [Int.toNat_natCast, List.getD_eq_getElem?_getD, hu]; rfl
  rw [hug] at hc
  refine gl_op rfl rfl rfl (op_indexAddr hT rfl rfl el98.cellsOf.1 el98.cellsOf.2 rfl rfl (by omega) (by omega) hA) ?_
  refine gl_op rfl rfl rfl (op_load hT rfl rfl rfl rfl hc) ?_
  refine Zp rfl (gl_nil (hK7 _ _ (gc_seq fun K8 hK8 => gc_region (Zp rfl (gl_op rfl rfl rfl (op_real rfl rfl) ?_)))))
  refine gl_callf rfl rfl rfl rfl Tryz.func101 rfl rfl rfl (mnumber_calls u.1 (hf u hum).1 _) ?_
  rintro _ _ ⟨rfl, n13, rfl⟩
  refine ⟨_, rfl, ?_⟩
  refine Zp rfl (Zp rfl (gl_split (t := 15) rfl (fun c15 => ?_) (fun c15 => ?_)))
  ·simp only [NN, reduceCtorEq] at c15
   refine Zs rfl (Zs rfl (Zs rfl (Zs rfl (Zp rfl (gl_nil (hK8 _ _ (gc_cond_t rfl (gc_seq fun K9 hK9 => gc_region (Zp rfl (gl_nil (hK9 _ _ (gc_ret ?_))))))))))))
   simp only [XR]
   refine gk_ret1 rfl rfl ?_
   exact ⟨by rw [parsV_no hum (by simp_all)], Eqv.trans ⟨n, rfl⟩ (Eqv.trans ⟨_, rfl⟩ (by first | exact ⟨_, rfl⟩ | exact Eqv.refl _))⟩
  simp only [NN, reduceCtorEq] at c15
  refine Zu rfl (Zp rfl (Zu rfl (gl_op rfl rfl rfl (op_imag rfl rfl) ?_)))
  refine Zu rfl (gl_callf rfl rfl rfl rfl Tryz.func101 rfl rfl rfl (mnumber_calls u.2 (hf u hum).2 _) ?_)
  rintro _ _ ⟨rfl, n18, rfl⟩
  refine ⟨_, rfl, ?_⟩
  refine Zu rfl (Zp rfl (Zp rfl (gl_nil (hK8 _ _ (gc_cond rfl rfl (fun c20 => ?_) (fun c20 => ?_))))))
  ·simp only [NN, reduceCtorEq] at c20
   refine gc_seq fun K10 hK10 => gc_region (Zp rfl (gl_nil (hK10 _ _ (gc_ret ?_))))
   simp only [XR]
   refine gk_ret1 rfl rfl ?_
   exact ⟨by rw [parsV_no hum (by simp_all)], Eqv.trans ⟨n, rfl⟩ (Eqv.trans ⟨_, rfl⟩ (by first | exact ⟨_, rfl⟩ | exact Eqv.refl _))⟩
  simp only [NN, reduceCtorEq] at c20
  refine gc_skip (hK6 _ _ (gc_region (Zi rfl (by omega) ?_)))
  refine Zp rfl (gl_nil ?_)
  intro a ha
  exact ⟨i + 1, ha.sub ⟨rfl, rfl, rfl, trivial⟩, by omega, by omega, by rw [parsV_at hu, hj]; simp_all, Eqv.trans ⟨n, rfl⟩ (Eqv.trans ⟨_, rfl⟩ ⟨_, rfl⟩)⟩
 simp only [NN, reduceCtorEq] at c8
 have hie : l.take i = l := List.take_of_length_le (by omega)
 rw [hie] at hj
 refine gc_exit ?_
 refine hK2 _ _ (gc_seq fun K11 hK11 => gc_region (Zp rfl (gl_nil (hK11 _ _ (gc_ret (gk_ret1 rfl rfl ?_))))))
 exact ⟨by rw [hj], ⟨n, rfl⟩⟩
end Go.Proofs.YtnomlloaahoceaaGreatDoor

/- Contracts of package model: layers, networks without names. No condition. -/
namespace Go.Proofs.YtnomlloaahoceaaGreatDoor
open Go.RowKit
set_option linter.unusedVariables false
set_option linter.unusedSimpArgs false
structure LyM (w : World) (ok : Nat → Prop) (x : Lx) : Prop where
 okL : x.L.ok
 rW : RdE w ok fV x.L.W.1 x.lw
 nW : x.L.W.2.1 = x.lw.length
 rB : RdE w ok fV x.L.B.1 x.lb
 nB : x.L.B.2.1 = x.lb.length
 rZ : RdE w ok cV x.L.Z.1 x.lz
 nZ : x.L.Z.2.1 = x.lz.length
 rZB : RdE w ok cV x.L.ZB.1 x.lzb
 nZB : x.L.ZB.2.1 = x.lzb.length
 fW : ∀ u ∈ x.lw, u < 18446744073709551616
 fB : ∀ u ∈ x.lb, u < 18446744073709551616
 fZ : ∀ u ∈ x.lz, u.1 < 18446744073709551616 ∧ u.2 < 18446744073709551616
 fZB : ∀ u ∈ x.lzb, u.1 < 18446744073709551616 ∧ u.2 < 18446744073709551616
 lW : x.lw.length ≤ 17592186044416
 lB : x.lb.length ≤ 17592186044416
 lZ : x.lz.length ≤ 17592186044416
 lZB : x.lzb.length ≤ 17592186044416
theorem LyM.old {w w' : World} {ok : Nat → Prop} {x : Lx} {L0 : List It} (h : LyM w ok x) (hS : St w.heap.size w w' L0) : LyM w' ok x :=
 ⟨h.okL, h.rW.old hS, h.nW, h.rB.old hS, h.nB, h.rZ.old hS, h.nZ, h.rZB.old hS, h.nZB, h.fW, h.fB, h.fZ, h.fZB, h.lW, h.lB, h.lZ, h.lZB⟩
theorem whole_f {L : Ly} {s : Sh} {a b c d : Nat} (h : ¬ ((a : Int) = (listsV L s).1.1 ∧ (b : Int) = (listsV L s).1.2.1 ∧ (c : Int) = (listsV L s).1.2.2.1 ∧ (d : Int) = (listsV L s).1.2.2.2)) : wholeV L s a b c d = false := by
 unfold wholeV
 rw [← Bool.not_eq_true]
 intro hh
 simp only [Bool.and_eq_true, decide_eq_true_eq] at hh
 exact h ⟨hh.1.1.1, hh.1.1.2, hh.1.2, hh.2⟩
theorem whole_t {L : Ly} {s : Sh} {a b c d : Nat} (h1 : (a : Int) = (listsV L s).1.1) (h2 : (b : Int) = (listsV L s).1.2.1) (h3 : (c : Int) = (listsV L s).1.2.2.1) (h4 : (d : Int) = (listsV L s).1.2.2.2) : wholeV L s a b c d = true := by
 unfold wholeV; simp [h1, h2, h3, h4]
set_option maxRecDepth 100000 in
theorem layer_calls (x : Lx) (s : Sh) (w : World) (hs : s.ok) {ok : Nat → Prop} (D : LyM w ok x) :
 Calls Tryz.prog 92 ⟨[.agg ⟨lyC x.L⟩, .agg ⟨shC s⟩]⟩ w fun e w' => e = .returned (.int .i64 (layV x s)) ∧ Below w.heap.size w w' := by
 have hnW := D.nW
 have hnB := D.nB
 have hnZ := D.nZ
 have hnZB := D.nZB
 refine gc_enter (N := 73) Tryz.func92 rfl rfl rfl [(0, _), (1, _)] rfl ?_
 have hS := St.start w
 refine gc_seq fun K1 hK1 => gc_region (gl_box hS rfl rfl rfl rfl rfl fun g2 w2 hS => ?_)
 refine gl_box hS rfl rfl rfl rfl rfl fun g3 w3 hS => ?_
 refine Zp rfl (gl_nil (hK1 _ _ (gc_seq fun K2 hK2 => gc_region (Zg 0 Tryz.underlying48 el48 hS rfl (Zg 1 Tryz.underlying27 el27 hS rfl (gl_callf rfl rfl rfl rfl Tryz.func51 rfl rfl rfl (mLists_calls x.L s _ D.okL hs) ?_))))))
 rintro _ w13 ⟨rfl, hb13⟩
 refine ⟨_, rfl, ?_⟩
 have hS := hS.grown hb13
 refine Zp rfl (Zp rfl (Zp rfl (Zp rfl (Zp rfl (Zp rfl (Zp rfl (Zp rfl (Zp rfl (Zp rfl (Zp rfl (gl_nil (hK2 _ _ (gc_seq fun K3 hK3 => gc_block (gc_seq fun K4 hK4 => gc_region (Zp rfl (Zp rfl (Zp rfl (gl_nil (hK4 _ _ (gc_cond rfl rfl (fun c19 => ?_) (fun c19 => ?_)))))))))))))))))))))
 ·simp only [NN, reduceCtorEq] at c19
  refine gc_seq fun K5 hK5 => gc_region (Zp rfl (Zp rfl (gl_nil (hK5 _ _ (gc_ret ?_)))))
  simp only [XR]
  refine gk_ret1 rfl rfl ?_
  exact ⟨by unfold layV; rw [if_pos c19]; rfl, hS.below⟩
 simp only [NN, reduceCtorEq] at c19
 have c19' : ¬ (listsV x.L s).2 ≠ 0 := by rw [c19]; simp
 refine gc_seq fun K6 hK6 => gc_region (Zf 10 Tryz.underlying48 rfl el45 (Zb 0 hS rfl (Zp rfl (Zp rfl (Zp rfl (Zp rfl (gl_split (t := 29) rfl (fun c29 => ?_) (fun c29 => ?_))))))))
 ·simp only [NN, reduceCtorEq] at c29
  refine Zs rfl (Zs rfl (Zs rfl (Zs rfl (Zs rfl (Zp rfl (Zp rfl (Zs rfl (Zs rfl (Zs rfl (Zs rfl (Zs rfl (Zp rfl (Zp rfl (Zs rfl (Zs rfl (Zs rfl (Zs rfl (Zs rfl (Zp rfl (Zp rfl (gl_nil (hK6 _ _ (gc_cond_t rfl (gc_seq fun K7 hK7 => gc_region (Zp rfl (gl_nil (hK7 _ _ (gc_ret ?_))))))))))))))))))))))))))))
  simp only [XR]
  refine gk_ret1 rfl rfl ?_
  refine ⟨?_, hS.below⟩
  unfold layV
  rw [if_neg c19']
  rw [if_pos (whole_f (by omega))]; done
 simp only [NN, reduceCtorEq] at c29
 refine Zu rfl (Zf 11 Tryz.underlying48 rfl el45 (Zu rfl (Zb 0 hS rfl (Zu rfl (Zp rfl (Zu rfl (Zp rfl (Zu rfl (Zp rfl (Zp rfl (Zp rfl (gl_split (t := 36) rfl (fun c36 => ?_) (fun c36 => ?_)))))))))))))
 ·simp only [NN, reduceCtorEq] at c36
  refine Zs rfl (Zs rfl (Zs rfl (Zs rfl (Zs rfl (Zp rfl (Zp rfl (Zs rfl (Zs rfl (Zs rfl (Zs rfl (Zs rfl (Zp rfl (Zp rfl (gl_nil (hK6 _ _ (gc_cond_t rfl (gc_seq fun K8 hK8 => gc_region (Zp rfl (gl_nil (hK8 _ _ (gc_ret ?_)))))))))))))))))))))
  simp only [XR]
  refine gk_ret1 rfl rfl ?_
  refine ⟨?_, hS.below⟩
  unfold layV
  rw [if_neg c19']
  rw [if_pos (whole_f (by omega))]; done
 simp only [NN, reduceCtorEq] at c36
 refine Zu rfl (Zf 12 Tryz.underlying48 rfl el46 (Zu rfl (Zb 0 hS rfl (Zu rfl (Zp rfl (Zu rfl (Zp rfl (Zu rfl (Zp rfl (Zp rfl (Zp rfl (gl_split (t := 43) rfl (fun c43 => ?_) (fun c43 => ?_)))))))))))))
 ·simp only [NN, reduceCtorEq] at c43
  refine Zs rfl (Zs rfl (Zs rfl (Zs rfl (Zs rfl (Zp rfl (Zp rfl (gl_nil (hK6 _ _ (gc_cond_t rfl (gc_seq fun K9 hK9 => gc_region (Zp rfl (gl_nil (hK9 _ _ (gc_ret ?_))))))))))))))
  simp only [XR]
  refine gk_ret1 rfl rfl ?_
  refine ⟨?_, hS.below⟩
  unfold layV
  rw [if_neg c19']
  rw [if_pos (whole_f (by omega))]; done
 simp only [NN, reduceCtorEq] at c43
 refine Zu rfl (Zf 13 Tryz.underlying48 rfl el46 (Zu rfl (Zb 0 hS rfl (Zu rfl (Zp rfl (Zu rfl (Zp rfl (Zu rfl (Zp rfl (Zp rfl (Zp rfl (gl_nil (hK6 _ _ (gc_cond rfl rfl (fun c23 => ?_) (fun c23 => ?_)))))))))))))))
 ·simp only [NN, reduceCtorEq] at c23
  refine gc_seq fun K10 hK10 => gc_region (Zp rfl (gl_nil (hK10 _ _ (gc_ret ?_))))
  simp only [XR]
  refine gk_ret1 rfl rfl ?_
  refine ⟨?_, hS.below⟩
  unfold layV
  rw [if_neg c19']
  rw [if_pos (whole_f (by omega))]; done
 simp only [NN, reduceCtorEq] at c23
 refine gc_seq fun K11 hK11 => gc_region (Zf 10 Tryz.underlying48 rfl el45 (Zb 0 hS rfl (gl_callf rfl rfl rfl rfl Tryz.func110 rfl rfl rfl (numbers_calls _ _ _ x.lw _ (D.rW.old hS) D.nW D.lW D.fW) ?_)))
 rintro _ _ ⟨rfl, n53, rfl⟩
 refine ⟨_, rfl, ?_⟩
 have hS := hS.dr n53
 refine Zp rfl (Zp rfl (gl_split (t := 55) rfl (fun c55 => ?_) (fun c55 => ?_)))
 ·simp only [NN, reduceCtorEq] at c55
  refine Zs rfl (Zs rfl (Zs rfl (Zs rfl (Zp rfl (Zp rfl (Zs rfl (Zs rfl (Zs rfl (Zs rfl (Zp rfl (Zp rfl (Zs rfl (Zs rfl (Zs rfl (Zs rfl (Zp rfl (Zp rfl (gl_nil (hK11 _ _ (gc_cond_t rfl (gc_seq fun K12 hK12 => gc_region (Zp rfl (gl_nil (hK12 _ _ (gc_ret ?_)))))))))))))))))))))))))
  simp only [XR]
  refine gk_ret1 rfl rfl ?_
  refine ⟨?_, hS.below⟩
  unfold layV
  rw [if_neg c19']
  rw [if_neg (by rw [whole_t (by omega) (by omega) (by omega) (by omega)]; simp), if_pos (by simp_all)]; done
 simp only [NN, reduceCtorEq] at c55
 refine Zu rfl (Zf 11 Tryz.underlying48 rfl el45 (Zu rfl (Zb 0 hS rfl (Zu rfl (gl_callf rfl rfl rfl rfl Tryz.func110 rfl rfl rfl (numbers_calls _ _ _ x.lb _ (D.rB.old hS) D.nB D.lB D.fB) ?_)))))
 rintro _ _ ⟨rfl, n58, rfl⟩
 refine ⟨_, rfl, ?_⟩
 have hS := hS.dr n58
 refine Zu rfl (Zp rfl (Zp rfl (Zp rfl (gl_split (t := 61) rfl (fun c61 => ?_) (fun c61 => ?_)))))
 ·simp only [NN, reduceCtorEq] at c61
  refine Zs rfl (Zs rfl (Zs rfl (Zs rfl (Zp rfl (Zp rfl (Zs rfl (Zs rfl (Zs rfl (Zs rfl (Zp rfl (Zp rfl (gl_nil (hK11 _ _ (gc_cond_t rfl (gc_seq fun K13 hK13 => gc_region (Zp rfl (gl_nil (hK13 _ _ (gc_ret ?_)))))))))))))))))))
  simp only [XR]
  refine gk_ret1 rfl rfl ?_
  refine ⟨?_, hS.below⟩
  unfold layV
  rw [if_neg c19']
  rw [if_neg (by rw [whole_t (by omega) (by omega) (by omega) (by omega)]; simp), if_pos (by simp_all)]; done
 simp only [NN, reduceCtorEq] at c61
 refine Zu rfl (Zf 12 Tryz.underlying48 rfl el46 (Zu rfl (Zb 0 hS rfl (Zu rfl (gl_callf rfl rfl rfl rfl Tryz.func111 rfl rfl rfl (parts_calls _ _ _ x.lz _ (D.rZ.old hS) D.nZ D.lZ D.fZ) ?_)))))
 rintro _ _ ⟨rfl, n64, rfl⟩
 refine ⟨_, rfl, ?_⟩
 have hS := hS.dr n64
 refine Zu rfl (Zp rfl (Zp rfl (Zp rfl (gl_split (t := 67) rfl (fun c67 => ?_) (fun c67 => ?_)))))
 ·simp only [NN, reduceCtorEq] at c67
  refine Zs rfl (Zs rfl (Zs rfl (Zs rfl (Zp rfl (Zp rfl (gl_nil (hK11 _ _ (gc_cond_t rfl (gc_seq fun K14 hK14 => gc_region (Zp rfl (gl_nil (hK14 _ _ (gc_ret ?_)))))))))))))
  simp only [XR]
  refine gk_ret1 rfl rfl ?_
  refine ⟨?_, hS.below⟩
  unfold layV
  rw [if_neg c19']
  rw [if_neg (by rw [whole_t (by omega) (by omega) (by omega) (by omega)]; simp), if_pos (by simp_all)]; done
 simp only [NN, reduceCtorEq] at c67
 refine Zu rfl (Zf 13 Tryz.underlying48 rfl el46 (Zu rfl (Zb 0 hS rfl (Zu rfl (gl_callf rfl rfl rfl rfl Tryz.func111 rfl rfl rfl (parts_calls _ _ _ x.lzb _ (D.rZB.old hS) D.nZB D.lZB D.fZB) ?_)))))
 rintro _ _ ⟨rfl, n70, rfl⟩
 refine ⟨_, rfl, ?_⟩
 have hS := hS.dr n70
 refine Zu rfl (Zp rfl (Zp rfl (Zp rfl (gl_nil (hK11 _ _ (gc_cond rfl rfl (fun c50 => ?_) (fun c50 => ?_)))))))
 ·simp only [NN, reduceCtorEq] at c50
  refine gc_seq fun K15 hK15 => gc_region (Zp rfl (gl_nil (hK15 _ _ (gc_ret ?_))))
  simp only [XR]
  refine gk_ret1 rfl rfl ?_
  refine ⟨?_, hS.below⟩
  unfold layV
  rw [if_neg c19']
  rw [if_neg (by rw [whole_t (by omega) (by omega) (by omega) (by omega)]; simp), if_pos (by simp_all)]; done
 simp only [NN, reduceCtorEq] at c50
 refine gc_skip (hK3 _ _ (gc_seq fun K16 hK16 => gc_region (Zp rfl (gl_nil (hK16 _ _ (gc_ret (gk_ret1 rfl rfl ?_)))))))
 refine ⟨?_, hS.below⟩
 unfold layV
 rw [if_neg c19']
 rw [if_neg (by rw [whole_t (by omega) (by omega) (by omega) (by omega)]; simp), if_neg (by simp_all)]; done
theorem weights_calls (x : Lx) (w : World) {ok : Nat → Prop} (D : LyM w ok x) :
 Calls Tryz.prog 93 ⟨[.agg ⟨lyC x.L⟩]⟩ w fun e w' => e = .returned (.int .i64 (wtsV x)) ∧ Below w.heap.size w w' := by
 have hnW := D.nW
 have hnB := D.nB
 have hnZ := D.nZ
 have hnZB := D.nZB
 have hlW := D.lW
 have hlB := D.lB
 have hlZ := D.lZ
 have hlZB := D.lZB
 refine gc_enter (N := 19) Tryz.func93 rfl rfl rfl [(0, _)] rfl ?_
 have hS := St.start w
 refine gc_seq fun K1 hK1 => gc_region (gl_box hS rfl rfl rfl rfl rfl fun g1 w1 hS => ?_)
 refine Zp rfl (gl_nil (hK1 _ _ (gc_seq fun K2 hK2 => gc_region (Zf 10 Tryz.underlying48 rfl el45 (Zb 0 hS rfl (Zp rfl (Zf 11 Tryz.underlying48 rfl el45 (Zb 0 hS rfl (Zp rfl (Zi rfl (by omega) ?_))))))))))
 refine Zf 12 Tryz.underlying48 rfl el46 (Zb 0 hS rfl (Zp rfl (Zf 13 Tryz.underlying48 rfl el46 (Zb 0 hS rfl (Zp rfl (Zi rfl (by omega) ?_))))))
 refine Zi rfl (by omega) ?_
 refine Zi rfl (by omega) ?_
 refine Zp rfl (gl_nil (hK2 _ _ (gc_ret (gk_ret1 rfl rfl ?_))))
 refine ⟨?_, hS.below⟩
 unfold wtsV
 rw [hnW, hnB, hnZ, hnZB]
theorem names0_calls (n : Int) (w : World) : Calls Tryz.prog 94 ⟨[.slice none 0 0, .int .i64 n]⟩ w fun e w' => e = .returned (.int .i64 0) ∧ Below w.heap.size w w' := by
 refine gc_enter (N := 39) Tryz.func94 rfl rfl rfl [(0, _), (1, _)] rfl ?_
 have hS := St.start w
 refine gc_seq fun K1 hK1 => gc_region (Zp rfl (gl_nil (hK1 _ _ (gc_seq fun K2 hK2 => gc_seq fun K3 hK3 => gc_region (Zp rfl (Zp rfl (Zp rfl (Zp rfl (Zs rfl (Zs rfl (Zs rfl (Zs rfl (Zp rfl (gl_nil (hK3 _ _ (gc_cond_f rfl (gc_skip (hK2 _ _ (gc_seq fun K4 hK4 => gc_region (gl_map hS rfl rfl rfl rfl fun g17 w17 hS => ?_))))))))))))))))))))
 refine Zp rfl (gl_nil (hK4 _ _ (gc_seq fun K5 hK5 => gc_seq fun K6 hK6 => gc_region (Zp rfl (Zp rfl (Zp rfl (gl_nil (hK6 _ _ (gc_block (gc_loop (fun k a w' => Fr 39 a [(19, .int .i64 0), (20, .int .i64 0)] ∧ k = 1 ∧ Below w.heap.size w w') 1 ?_ ?_ ?_))))))))))
 ·intro a ha; exact ⟨ha.sub ⟨rfl, rfl, trivial⟩, rfl, hS.below⟩
 ·rintro a w ⟨_, h2, _⟩; omega
 rintro k a w1 ⟨hF, hk, hS2⟩
 refine gc_of hF ?_
 refine gc_seq fun K7 hK7 => gc_region (Zp rfl (gl_nil (hK7 _ _ (gc_seq fun K8 hK8 => gc_cond_f rfl (gc_exit ?_)))))
 refine hK5 _ _ (gc_seq fun K9 hK9 => gc_region (Zp rfl (gl_nil (hK9 _ _ (gc_ret (gk_ret1 rfl rfl ?_))))))
 exact ⟨rfl, hS2⟩
end Go.Proofs.YtnomlloaahoceaaGreatDoor

/- Contracts of package model: model.Shapes, model.Check of networks without names. No condition. -/
namespace Go.Proofs.YtnomlloaahoceaaGreatDoor
open Go.RowKit
set_option linter.unusedVariables false
set_option linter.unusedSimpArgs false
theorem shape_three : ThreeInts Tryz.prog 27 ((Tryz.prog.fieldsOf 27)[0]?.getD default) ((Tryz.prog.fieldsOf 27)[1]?.getD default) ((Tryz.prog.fieldsOf 27)[2]?.getD default) :=
 ⟨by kernel_rfl, by kernel_rfl, of_decide_eq_true (by kernel_rfl), of_decide_eq_true (by kernel_rfl), of_decide_eq_true (by kernel_rfl), by kernel_rfl, by kernel_rfl, by kernel_rfl, by kernel_rfl, by kernel_rfl, by kernel_rfl, by kernel_rfl, by kernel_rfl⟩
theorem sh_ok {s : Sh} (h : ¬ szBad s) : s.ok := by
 have := sz_good h
 exact ⟨⟨by omega, by omega⟩, ⟨by omega, by omega⟩, ⟨by omega, by omega⟩⟩
@[reducible] def netC (s : Sh) (A : Option Addr) (n c : Nat) : List Value := [.int .i64 s.c, .int .i64 s.h, .int .i64 s.w, .slice A n c, .slice none 0 0]
theorem sh_eq {a b : Sh} (h : a.c = b.c ∧ a.h = b.h ∧ a.w = b.w) : a = b := by
 obtain ⟨h1, h2, h3⟩ := h
 cases a; cases b; simp_all
set_option maxHeartbeats 4000000 in
set_option maxRecDepth 100000 in
theorem shapes_calls (s0 : Sh) (A : Option Addr) (c : Nat) (xs : List Lx) (w : World) (hs : s0.ok) {ok : Nat → Prop} (hrd : RdS w ok lxC 14 A xs) (hD : ∀ x ∈ xs, LyM w ok x) :
 Calls Tryz.prog 70 ⟨[.agg ⟨netC s0 A xs.length c⟩]⟩ w fun e w' => (∃ A' n' c', e = .returned (.tuple #[.slice A' n' c', .int .i64 (shapesV s0 xs).1, .int .i64 (shapesV s0 xs).2])) ∧ Below w.heap.size w w' := by
 refine gc_enter (N := 104) Tryz.func70 rfl rfl rfl [(0, _)] rfl ?_
 have hS := St.start w
 refine gc_seq fun K1 hK1 => gc_region (gl_box hS rfl rfl rfl rfl rfl fun g1 w1 hS => ?_)
 refine Zp rfl (Zp rfl (Zp rfl (gl_nil (hK1 _ _ (gc_seq fun K2 hK2 => gc_region (Zf 0 Tryz.underlying31 rfl el27 (Zg 0 Tryz.underlying27 el27 hS rfl (gl_callf rfl rfl rfl rfl Tryz.func21 rfl rfl rfl (mSize_calls s0 _ hs) ?_))))))))
 rintro _ w19 ⟨rfl, hb19⟩
 refine ⟨_, rfl, ?_⟩
 have hS := hS.grown hb19
 refine Zp rfl (Zp rfl (Zp rfl (Zp rfl (Zp rfl (gl_nil (hK2 _ _ (gc_seq fun K3 hK3 => gc_seq fun K4 hK4 => gc_region (Zp rfl (Zp rfl (gl_nil (hK4 _ _ (gc_cond rfl rfl (fun c23 => ?_) (fun c23 => ?_)))))))))))))
 ·simp only [NN, reduceCtorEq] at c23
  refine gc_seq fun K5 hK5 => gc_region (Zp rfl (Zp rfl (Zp rfl (Zp rfl (gl_nil (hK5 _ _ (gc_ret ?_)))))))
  simp only [XR]
  refine gk_ret3 rfl rfl rfl rfl ?_
  exact ⟨⟨none, 0, 0, by unfold shapesV; rw [if_pos c23]; rfl⟩, hS.below⟩
 simp only [NN, reduceCtorEq] at c23
 have hsz := sizeV_ok c23
 have c23' : ¬ (sizeV s0).2 ≠ 0 := by rw [c23]; simp
 refine gc_skip (hK3 _ _ (gc_seq fun K6 hK6 => gc_seq fun K7 hK7 => gc_region (Zf 3 Tryz.underlying31 rfl el28 (Zb 0 hS rfl (Zp rfl (Zp rfl (gl_nil (hK7 _ _ (gc_cond rfl rfl (fun c28 => ?_) (fun c28 => ?_))))))))))
 ·simp only [NN, reduceCtorEq] at c28
  refine gc_seq fun K8 hK8 => gc_region (Zp rfl (Zp rfl (Zp rfl (gl_nil (hK8 _ _ (gc_ret ?_))))))
  simp only [XR]
  refine gk_ret3 rfl rfl rfl rfl ?_
  exact ⟨⟨none, 0, 0, by unfold shapesV; rw [if_neg c23', if_pos (by omega)]⟩, hS.below⟩
 simp only [NN, reduceCtorEq] at c28
 refine gc_skip (hK6 _ _ (gc_seq fun K9 hK9 => gc_region (Zf 0 Tryz.underlying31 rfl el27 (Zg 0 Tryz.underlying27 el27 hS rfl (gl_litS hT hS el27 rfl rfl rfl rfl rfl rfl rfl (by decide) fun g31 w31 hS => ?_)))))
 refine Zp rfl (gl_nil (hK9 _ _ (gc_seq fun K10 hK10 => gc_region (Zp rfl (gl_nil (hK10 _ _ (gc_seq fun K11 hK11 => gc_seq fun K12 hK12 => gc_region (Zf 3 Tryz.underlying31 rfl el28 (Zb 0 hS rfl (Zp rfl (Zp rfl (gl_nil (hK12 _ _ (gc_block ?_))))))))))))))
 have hsv : shapesV s0 xs = shpGo 0 [s0] 0 xs := by unfold shapesV; rw [if_neg c23', if_neg (by omega)]
 refine gc_loop (fun k a w' => ∃ (i : Nat) (ss : List Sh) (wt sz : Int) (A7 : Option Addr) (c7 : Nat), Fr 104 a [(1, .pointer (some ⟨g1, 0, none⟩)), (5, .int .i64 sz), (7, .slice A7 ss.length c7), (8, .int .i64 wt), (33, .slice A xs.length c), (34, .int .i64 (xs.length : Nat)), (35, .int .i64 (i : Nat))] ∧ i ≤ xs.length ∧ k = xs.length + 1 - i ∧ ss.length = i + 1 ∧
  (∀ s ∈ ss, s.ok) ∧ (0 ≤ wt ∧ wt ≤ 65536) ∧ shapesV s0 xs = shpGo i ss wt (xs.drop i) ∧
  St w.heap.size w w' [.blk g1 31 (netC s0 A xs.length c), .row A7 c7 27 3 ss.length (ss.map shC).flatten]) (xs.length + 1) ?_ ?_ ?_
 ·intro a ha
  refine ⟨0, [s0], 0, _, _, _, ha.sub ⟨rfl, rfl, rfl, rfl, rfl, rfl, rfl, trivial⟩, by omega, by omega, rfl, fun s h => ?_, by omega, hsv, hS⟩
  rw [List.mem_singleton] at h; rw [h]; exact hs
 ·rintro a w' ⟨i, _, _, _, _, _, _, h1, h2, _⟩; omega
 rintro k a w1 ⟨i, ss, wt, sz, A7, c7, hF, hi, hk, hss, hso, hwt, hsv, hS⟩
 refine gc_of hF ?_
 clear hF
 refine gc_seq fun K13 hK13 => gc_region (Zp rfl (gl_nil (hK13 _ _ (gc_seq fun K14 hK14 => gc_cond rfl rfl (fun c36 => ?_) (fun c36 => ?_)))))
 ·simp only [NN, reduceCtorEq] at c36
  refine gc_skip (hK14 _ _ (gc_seq fun K15 hK15 => gc_block (gc_seq fun K16 hK16 => gc_region (Zp rfl ?_))))
  have hil : i < xs.length := by omega
  obtain ⟨x, hx⟩ : ∃ x, xs[i]? = some x := ⟨_, List.getElem?_eq_getElem hil⟩
  have hxm := List.mem_of_getElem? hx
  obtain ⟨adx, hAx, hcx⟩ := (hrd.old (by decide) hS).at hx
  have hdrop : xs.drop i = x :: xs.drop (i + 1) := by
   rw [List.drop_eq_getElem_cons hil]
   have : xs[i] = x := by rw [List.getElem?_eq_getElem hil] at hx; exact Option.some.inj hx
   rw [this]
  rw [hdrop] at hsv
  refine gl_op rfl rfl rfl (op_indexAddr hT rfl rfl el48.cellsOf.1 el48.cellsOf.2 rfl rfl (by omega) (by omega) hAx) ?_
  refine gl_op rfl rfl rfl (op_loadS Tryz.underlying48 rfl el48 rfl rfl hcx rfl) ?_
  refine gl_alloc el48 hS rfl rfl rfl rfl fun g10 w10 hS => ?_
  refine Zp rfl (gl_storeM 2 hS el48 rfl rfl rfl rfl rfl rfl rfl rfl rfl fun w_212 hS => ?_)
  refine gl_nil (hK16 _ _ (gc_seq fun K17 hK17 => gc_region (Zp rfl (Zp rfl ?_))))
  have hS : St w.heap.size w _ [.blk g1 31 (netC s0 A xs.length c), .row A7 c7 27 3 ss.length (ss.map shC).flatten, .blk g10 48 (lyC x.L)] := hS
  obtain ⟨s, hsi⟩ : ∃ s, ss[i]? = some s := ⟨_, List.getElem?_eq_getElem (by omega)⟩
  have hsg : ss.getD i ⟨0, 0, 0⟩ = s := by rw [List.getD_eq_getElem?_getD, hsi]; rfl
  have hsok := hso s (List.mem_of_getElem? hsi)
  have hRs : RdS _ All shC 3 A7 ss := ⟨hS.rd (i := 1) rfl, fun _ => rfl⟩
  obtain ⟨ad7, hA7, hc7⟩ := hRs.at hsi
  refine gl_op rfl rfl rfl (op_indexAddr hT rfl rfl el27.cellsOf.1 el27.cellsOf.2 rfl rfl (by omega) (by omega) hA7) ?_
  refine gl_op rfl rfl rfl (op_loadS Tryz.underlying27 rfl el27 rfl rfl hc7 rfl) ?_
  refine gl_alloc el27 hS rfl rfl rfl rfl fun g11 w11 hS => ?_
  refine gl_storeM 3 hS el27 rfl rfl rfl rfl rfl rfl rfl rfl rfl fun w_213 hS => ?_
  refine gl_nil (hK17 _ _ (gc_seq fun K18 hK18 => gc_seq fun K19 hK19 => gc_region (Zg 2 Tryz.underlying48 el48 hS rfl (Zg 3 Tryz.underlying27 el27 hS rfl ?_))))
  have hS : St w.heap.size w _ [.blk g1 31 (netC s0 A xs.length c), .row A7 c7 27 3 ss.length (ss.map shC).flatten, .blk g10 48 (lyC x.L), .blk g11 27 (shC s)] := hS
  have Dx := (hD x hxm).old hS
  have hsz3 : shpGo i ss wt (x :: xs.drop (i + 1)) = (if layV x s ≠ 0 then (layV x s, (i : Int) + 1) else if x.L.k = 5 ∧ ((i : Int) < x.L.fr ∨ ss.getD x.L.fr.toNat ⟨0, 0, 0⟩ ≠ s) then (66, (i : Int) + 1) else
   if 65536 < wt + wtsV x then (65, (i : Int) + 1) else shpGo (i + 1) (ss ++ [(outV x.L s).1]) (wt + wtsV x) (xs.drop (i + 1))) := by rw [← hsg]; rfl
  rw [hsz3] at hsv
  refine gl_callf rfl rfl rfl rfl Tryz.func92 rfl rfl rfl (layer_calls x s _ hsok Dx) ?_
  rintro _ w46 ⟨rfl, hb46⟩
  refine ⟨_, rfl, ?_⟩
  have hS := hS.grown hb46
  refine Zp rfl (gl_nil (hK19 _ _ (gc_seq fun K20 hK20 => gc_region (Zp rfl (Zp rfl (gl_nil (hK20 _ _ (gc_cond rfl rfl (fun c48 => ?_) (fun c48 => ?_)))))))))
  ·simp only [NN, reduceCtorEq] at c48
   refine gc_seq fun K21 hK21 => gc_region (Zp rfl (Zp rfl (Zi rfl (by omega) ?_)))
   refine Zp rfl (Zp rfl (Zp rfl (gl_nil (hK21 _ _ (gc_ret ?_)))))
   simp only [XR]
   refine gk_ret3 rfl rfl rfl rfl ?_
   rw [if_pos c48] at hsv
   exact ⟨⟨none, 0, 0, by rw [hsv] <;> rfl⟩, hS.below⟩
  simp only [NN, reduceCtorEq] at c48
  have hout0 := layV_0 c48
  obtain ⟨hf0, hszs, hnw, hn6, hszo, hoe⟩ := outV_ok hout0
  obtain ⟨hk1, hk2, hfo⟩ := fv_zero hf0
  have hfr := hfo.2.2
  rw [if_neg (by rw [c48]; simp)] at hsv
  refine gc_skip (hK18 _ _ (gc_seq fun K22 hK22 => gc_seq fun K23 hK23 => gc_anyS hS (by kernel_rfl) rfl fun nq15 hK => ?_))
  have hS := hS.dr nq15
  have hfr5 : x.L.k = 5 → 0 ≤ x.L.fr := by intro h; rw [if_pos h] at hfr; omega
  obtain ⟨s2, hs2⟩ : ∃ s2, s2 = ss.getD x.L.fr.toNat ⟨0, 0, 0⟩ := ⟨_, rfl⟩
  rw [← hs2] at hsv
  have hf2 : x.L.fr ≤ i → ss[x.L.fr.toNat]? = some s2 := by
   intro h
   have hlt : x.L.fr.toNat < ss.length := by omega
   rw [hs2, List.getD_eq_getElem?_getD, List.getElem?_eq_getElem hlt]; rfl
  refine Yf 0 0 Tryz.underlying48 rfl el3 (by kernel_rfl) (fun _ _ _ _ h => h) hK ?_
  refine Yb 1 2 rfl (by kernel_rfl) (fun _ _ _ _ h => h) hK ?_
  refine Yp 2 rfl (by kernel_rfl) (fun _ _ _ _ h => h) hK ?_
  refine Yp 3 rfl (by kernel_rfl) (fun _ _ _ _ h => h) hK ?_
  refine ga_split (t := 55) rfl (fun c55 => ?_) (fun c55 => ?_)
  ·simp only [NN, reduceCtorEq] at c55
   refine ga_take_at 4 rfl rfl rfl rfl rfl rfl rfl (by kernel_rfl) (fun _ _ _ _ h => h) hK (fun w1 hS => op_fieldB 8 rfl Tryz.underlying48 rfl el3 rfl rfl) ?_
   refine ga_take_at 5 rfl rfl rfl rfl rfl rfl rfl (by kernel_rfl) (fun _ _ _ _ h => h) hK (fun w1 hS => op_loadB 2 hT hS rfl rfl rfl rfl rfl rfl) ?_
   refine ga_take_at 6 rfl rfl rfl rfl rfl rfl rfl (by kernel_rfl) (fun _ _ _ _ h => h) hK (fun w1 hS => op_pure hT rfl) ?_
   refine ga_take_at 7 rfl rfl rfl rfl rfl rfl rfl (by kernel_rfl) (fun _ _ _ _ h => h) hK (fun w1 hS => op_pure hT rfl) ?_
   refine ga_take_at 8 rfl rfl rfl rfl rfl rfl rfl (by kernel_rfl) (fun _ _ _ _ h => h) hK (fun w1 hS => op_pure hT rfl) ?_
   refine ga_split (t := 60) rfl (fun c60 => ?_) (fun c60 => ?_)
   ·simp only [NN, reduceCtorEq] at c60
    refine Ys 9 rfl (by kernel_rfl) (fun _ _ _ _ h => h) hK ?_
    refine Ys 10 rfl (by kernel_rfl) (fun _ _ _ _ h => h) hK ?_
    refine Ys 11 rfl (by kernel_rfl) (fun _ _ _ _ h => h) hK ?_
    refine Ys 12 rfl (by kernel_rfl) (fun _ _ _ _ h => h) hK ?_
    refine Ys 13 rfl (by kernel_rfl) (fun _ _ _ _ h => h) hK ?_
    refine Ys 14 rfl (by kernel_rfl) (fun _ _ _ _ h => h) hK ?_
    refine Ys 15 rfl (by kernel_rfl) (fun _ _ _ _ h => h) hK ?_
    refine ga_take_at 16 rfl rfl rfl rfl rfl rfl rfl (by kernel_rfl) (fun _ _ _ _ h => h) hK (fun w1 hS => op_pure hT rfl) ?_
    refine Yp 17 rfl (by kernel_rfl) (fun _ _ _ _ h => h) hK ?_
    refine ga_done (by kernel_rfl) ?_
    refine hK23 _ _ (gc_cond_t rfl (gc_seq fun K24 hK24 => gc_region (Zp rfl (Zi rfl (by omega) ?_))))
    refine Zp rfl (Zp rfl (Zp rfl (gl_nil (hK24 _ _ (gc_ret ?_)))))
    simp only [XR]
    refine gk_ret3 rfl rfl rfl rfl ?_
    have hpo : x.L.k = 5 ∧ ((i : Int) < x.L.fr ∨ s2 ≠ s) := ⟨c55, .inl c60⟩
    rw [if_pos hpo] at hsv
    exact ⟨⟨none, 0, 0, by rw [hsv]⟩, hS.below⟩
   simp only [NN, reduceCtorEq] at c60
   refine ga_take_at 9 rfl rfl rfl rfl rfl rfl rfl (by kernel_rfl) (fun _ _ _ _ h => h) hK (fun w1 hS => op_pure hT rfl) ?_
   refine ga_take_at 10 rfl rfl rfl rfl rfl rfl rfl (by kernel_rfl) (fun _ _ _ _ h => h) hK (fun w1 hS => op_fieldB 8 rfl Tryz.underlying48 rfl el3 rfl rfl) ?_
   refine ga_take_at 11 rfl rfl rfl rfl rfl rfl rfl (by kernel_rfl) (fun _ _ _ _ h => h) hK (fun w1 hS => op_loadB 2 hT hS rfl rfl rfl rfl rfl rfl) ?_
   refine ga_take_at 12 rfl rfl rfl rfl rfl rfl rfl (by kernel_rfl) (fun _ _ _ _ h => h) hK (fun w1 hS => op_indexAddr hT rfl rfl el27.cellsOf.1 el27.cellsOf.2 rfl rfl (by have := hfr5 (by omega); omega) (by have := hfr5 (by omega); omega) hA7) ?_
   refine ga_take_at 13 rfl rfl rfl rfl rfl rfl rfl (by kernel_rfl) (fun _ _ _ _ h => h) hK (fun w1 hS => op_loadS Tryz.underlying27 rfl el27 rfl rfl (RdS.cells (⟨hS.rd (i := 1) rfl, fun _ => rfl⟩ : RdS _ All shC 3 A7 ss) hA7 (hf2 (by omega))) rfl) ?_
   refine ga_take_at 14 rfl rfl rfl rfl rfl rfl rfl (by kernel_rfl) (fun _ _ _ _ h => h) hK (fun w1 hS => op_loadG 3 Tryz.underlying27 rfl el27 hS rfl rfl rfl rfl rfl) ?_
   refine ga_take_at 15 rfl rfl rfl rfl rfl rfl rfl (by kernel_rfl) (fun _ _ _ _ h => h) hK (fun w1 hS => op_neq3 shape_three rfl rfl rfl) ?_
   refine ga_take_at 16 rfl rfl rfl rfl rfl rfl rfl (by kernel_rfl) (fun _ _ _ _ h => h) hK (fun w1 hS => op_pure hT rfl) ?_
   refine Yp 17 rfl (by kernel_rfl) (fun _ _ _ _ h => h) hK ?_
   refine ga_done (by kernel_rfl) ?_
   refine hK23 _ _ (gc_cond rfl rfl (fun c69 => ?_) (fun c69 => ?_))
   ·simp only [NN, reduceCtorEq] at c69
    refine gc_seq fun K25 hK25 => gc_region (Zp rfl (Zi rfl (by omega) ?_))
    refine Zp rfl (Zp rfl (Zp rfl (gl_nil (hK25 _ _ (gc_ret ?_)))))
    simp only [XR]
    refine gk_ret3 rfl rfl rfl rfl ?_
    have hpo : x.L.k = 5 ∧ ((i : Int) < x.L.fr ∨ s2 ≠ s) := ⟨c55, .inr fun h => c69 (by rw [h]; exact ⟨rfl, rfl, rfl⟩)⟩
    rw [if_pos hpo] at hsv
    exact ⟨⟨none, 0, 0, by rw [hsv]⟩, hS.below⟩
   simp only [NN, reduceCtorEq] at c69
   refine gc_skip (hK22 _ _ (gc_seq fun K26 hK26 => gc_seq fun K27 hK27 => gc_region (Zp rfl (Zg 2 Tryz.underlying48 el48 hS rfl (gl_callf rfl rfl rfl rfl Tryz.func93 rfl rfl rfl (weights_calls x _ ((hD x hxm).old hS)) ?_)))))
   rintro _ w74 ⟨rfl, hb74⟩
   refine ⟨_, rfl, ?_⟩
   have hS := hS.grown hb74
   have hwv : 0 ≤ wtsV x ∧ wtsV x ≤ 1000000000000000 := by
    have := (hD x hxm).lW
    have := (hD x hxm).lB
    have := (hD x hxm).lZ
    have := (hD x hxm).lZB
    unfold wtsV
    omega
   refine Zi rfl (by omega) ?_
   have hne : ¬ (x.L.k = 5 ∧ ((i : Int) < x.L.fr ∨ s2 ≠ s)) := by
    rintro ⟨h5, h⟩
    rcases h with h | h
    ·omega
    exact h (sh_eq (by simpa using c69))
   rw [if_neg hne] at hsv
   refine Zp rfl (gl_nil (hK27 _ _ (gc_seq fun K28 hK28 => gc_region (Zp rfl (Zp rfl (gl_nil (hK28 _ _ (gc_cond rfl rfl (fun c77 => ?_) (fun c77 => ?_)))))))))
   ·simp only [NN, reduceCtorEq] at c77
    refine gc_seq fun K29 hK29 => gc_region (Zp rfl (Zi rfl (by omega) ?_))
    refine Zp rfl (Zp rfl (Zp rfl (gl_nil (hK29 _ _ (gc_ret ?_)))))
    simp only [XR]
    refine gk_ret3 rfl rfl rfl rfl ?_
    rw [if_pos c77] at hsv
    exact ⟨⟨none, 0, 0, by rw [hsv]⟩, hS.below⟩
   simp only [NN, reduceCtorEq] at c77
   refine gc_skip (hK26 _ _ (gc_seq fun K30 hK30 => gc_region (Zg 2 Tryz.underlying48 el48 hS rfl (Zg 3 Tryz.underlying27 el27 hS rfl (gl_callf rfl rfl rfl rfl Tryz.func50 rfl rfl rfl (mOut_calls x.L s _ (hD x hxm).okL hsok) ?_)))))
   rintro _ w83 ⟨rfl, hb83⟩
   refine ⟨_, rfl, ?_⟩
   have hS := hS.grown hb83
   refine Zp rfl (Zp rfl (Zp rfl (gl_alloc el27 hS rfl rfl rfl rfl fun g13 w13 hS => ?_)))
   refine gl_storeM 4 hS el27 rfl rfl rfl rfl rfl rfl rfl rfl rfl fun w_223 hS => ?_
   refine Zp rfl (gl_nil (hK30 _ _ (gc_seq fun K31 hK31 => gc_region (Zp rfl (Zg 4 Tryz.underlying27 el27 hS rfl ?_)))))
   have hS : St w.heap.size w _ [.blk g1 31 (netC s0 A xs.length c), .row A7 c7 27 3 ss.length (ss.map shC).flatten, .blk g10 48 (lyC x.L), .blk g11 27 (shC s), .blk g13 27 (shC (outV x.L s).1)] := hS
   refine gl_litS hT hS el27 rfl rfl rfl rfl rfl rfl rfl (by decide) fun g88 w88 hS => ?_
   refine gl_append 1 hT hS el27 (hS.rd (i := 5) rfl) rfl rfl rfl rfl rfl rfl rfl rfl rfl (by omega) (by omega) fun A89 c89 w89 hS => ?_
   have hS := hS.pre 5
   refine Zp rfl (gl_nil (hK31 _ _ (gc_region (Zg 4 Tryz.underlying27 el27 hS rfl (gl_callf rfl rfl rfl rfl Tryz.func21 rfl rfl rfl (mSize_calls (outV x.L s).1 _ (by rw [hoe]; exact sh_ok hszo)) ?_)))))
   rintro _ w92 ⟨rfl, hb92⟩
   refine ⟨_, rfl, ?_⟩
   have hS := hS.grown hb92
   refine Zp rfl (Zp rfl (Zp rfl (Zp rfl (gl_nil (hK15 _ _ (gc_region (Zi rfl (by omega) ?_)))))))
   refine Zp rfl (gl_nil ?_)
   intro a ha
   rw [if_neg (by omega)] at hsv
   refine ⟨i + 1, ss ++ [(outV x.L s).1], wt + wtsV x, _, A89, c89, ha.sub ⟨rfl, rfl, ?_, rfl, rfl, rfl, rfl, trivial⟩, by omega, by omega, by simp [hss], fun s' h => ?_, by omega, hsv, ?_⟩
   ·rw [List.length_append]; rfl
   ·rcases List.mem_append.1 h with h | h
    ·exact hso s' h
    rw [List.mem_singleton] at h; rw [h, hoe]; exact sh_ok hszo
   rw [List.length_append, List.map_append, List.flatten_append]
   exact hS.pre 2
  simp only [NN, reduceCtorEq] at c55
  refine Ys 4 rfl (by kernel_rfl) (fun _ _ _ _ h => h) hK ?_
  refine Ys 5 rfl (by kernel_rfl) (fun _ _ _ _ h => h) hK ?_
  refine Ys 6 rfl (by kernel_rfl) (fun _ _ _ _ h => h) hK ?_
  refine Ys 7 rfl (by kernel_rfl) (fun _ _ _ _ h => h) hK ?_
  refine Ys 8 rfl (by kernel_rfl) (fun _ _ _ _ h => h) hK ?_
  refine ga_none 9 rfl rfl rfl rfl rfl rfl (by kernel_rfl) (fun _ _ _ _ h => h) hK ?_
  refine ga_none 10 rfl rfl rfl rfl rfl rfl (by kernel_rfl) (fun _ _ _ _ h => h) hK ?_
  refine ga_none 11 rfl rfl rfl rfl rfl rfl (by kernel_rfl) (fun _ _ _ _ h => h) hK ?_
  refine ga_none 12 rfl rfl rfl rfl rfl rfl (by kernel_rfl) (fun _ _ _ _ h => h) hK ?_
  refine ga_none 13 rfl rfl rfl rfl rfl rfl (by kernel_rfl) (fun _ _ _ _ h => h) hK ?_
  refine ga_none 14 rfl rfl rfl rfl rfl rfl (by kernel_rfl) (fun _ _ _ _ h => h) hK ?_
  refine ga_none 15 rfl rfl rfl rfl rfl rfl (by kernel_rfl) (fun _ _ _ _ h => h) hK ?_
  refine Ys 16 rfl (by kernel_rfl) (fun _ _ _ _ h => h) hK ?_
  refine Yp 17 rfl (by kernel_rfl) (fun _ _ _ _ h => h) hK ?_
  refine ga_done (by kernel_rfl) ?_
  refine hK23 _ _ (gc_cond_f rfl (gc_skip (hK22 _ _ (gc_seq fun K32 hK32 => gc_seq fun K33 hK33 => gc_region (Zp rfl (Zg 2 Tryz.underlying48 el48 hS rfl (gl_callf rfl rfl rfl rfl Tryz.func93 rfl rfl rfl (weights_calls x _ ((hD x hxm).old hS)) ?_)))))))
  rintro _ w74 ⟨rfl, hb74⟩
  refine ⟨_, rfl, ?_⟩
  have hS := hS.grown hb74
  have hwv : 0 ≤ wtsV x ∧ wtsV x ≤ 1000000000000000 := by
   have := (hD x hxm).lW
   have := (hD x hxm).lB
   have := (hD x hxm).lZ
   have := (hD x hxm).lZB
   unfold wtsV
   omega
  refine Zi rfl (by omega) ?_
  have hne : ¬ (x.L.k = 5 ∧ ((i : Int) < x.L.fr ∨ s2 ≠ s)) := by
   rintro ⟨h5, h⟩
   rcases h with h | h
   ·omega
   omega
  rw [if_neg hne] at hsv
  refine Zp rfl (gl_nil (hK33 _ _ (gc_seq fun K34 hK34 => gc_region (Zp rfl (Zp rfl (gl_nil (hK34 _ _ (gc_cond rfl rfl (fun c77 => ?_) (fun c77 => ?_)))))))))
  ·simp only [NN, reduceCtorEq] at c77
   refine gc_seq fun K35 hK35 => gc_region (Zp rfl (Zi rfl (by omega) ?_))
   refine Zp rfl (Zp rfl (Zp rfl (gl_nil (hK35 _ _ (gc_ret ?_)))))
   simp only [XR]
   refine gk_ret3 rfl rfl rfl rfl ?_
   rw [if_pos c77] at hsv
   exact ⟨⟨none, 0, 0, by rw [hsv]⟩, hS.below⟩
  simp only [NN, reduceCtorEq] at c77
  refine gc_skip (hK32 _ _ (gc_seq fun K36 hK36 => gc_region (Zg 2 Tryz.underlying48 el48 hS rfl (Zg 3 Tryz.underlying27 el27 hS rfl (gl_callf rfl rfl rfl rfl Tryz.func50 rfl rfl rfl (mOut_calls x.L s _ (hD x hxm).okL hsok) ?_)))))
  rintro _ w83 ⟨rfl, hb83⟩
  refine ⟨_, rfl, ?_⟩
  have hS := hS.grown hb83
  refine Zp rfl (Zp rfl (Zp rfl (gl_alloc el27 hS rfl rfl rfl rfl fun g13 w13 hS => ?_)))
  refine gl_storeM 4 hS el27 rfl rfl rfl rfl rfl rfl rfl rfl rfl fun w_223 hS => ?_
  refine Zp rfl (gl_nil (hK36 _ _ (gc_seq fun K37 hK37 => gc_region (Zp rfl (Zg 4 Tryz.underlying27 el27 hS rfl ?_)))))
  have hS : St w.heap.size w _ [.blk g1 31 (netC s0 A xs.length c), .row A7 c7 27 3 ss.length (ss.map shC).flatten, .blk g10 48 (lyC x.L), .blk g11 27 (shC s), .blk g13 27 (shC (outV x.L s).1)] := hS
  refine gl_litS hT hS el27 rfl rfl rfl rfl rfl rfl rfl (by decide) fun g88 w88 hS => ?_
  refine gl_append 1 hT hS el27 (hS.rd (i := 5) rfl) rfl rfl rfl rfl rfl rfl rfl rfl rfl (by omega) (by omega) fun A89 c89 w89 hS => ?_
  have hS := hS.pre 5
  refine Zp rfl (gl_nil (hK37 _ _ (gc_region (Zg 4 Tryz.underlying27 el27 hS rfl (gl_callf rfl rfl rfl rfl Tryz.func21 rfl rfl rfl (mSize_calls (outV x.L s).1 _ (by rw [hoe]; exact sh_ok hszo)) ?_)))))
  rintro _ w92 ⟨rfl, hb92⟩
  refine ⟨_, rfl, ?_⟩
  have hS := hS.grown hb92
  refine Zp rfl (Zp rfl (Zp rfl (Zp rfl (gl_nil (hK15 _ _ (gc_region (Zi rfl (by omega) ?_)))))))
  refine Zp rfl (gl_nil ?_)
  intro a ha
  rw [if_neg (by omega)] at hsv
  refine ⟨i + 1, ss ++ [(outV x.L s).1], wt + wtsV x, _, A89, c89, ha.sub ⟨rfl, rfl, ?_, rfl, rfl, rfl, rfl, trivial⟩, by omega, by omega, by simp [hss], fun s' h => ?_, by omega, hsv, ?_⟩
  ·rw [List.length_append]; rfl
  ·rcases List.mem_append.1 h with h | h
   ·exact hso s' h
   rw [List.mem_singleton] at h; rw [h, hoe]; exact sh_ok hszo
  rw [List.length_append, List.map_append, List.flatten_append]
  exact hS.pre 2
 simp only [NN, reduceCtorEq] at c36
 have hie : xs.drop i = [] := List.drop_eq_nil_of_le (by omega)
 rw [hie] at hsv
 have hsv : shapesV s0 xs = (0, 0) := hsv
 refine gc_exit ?_
 refine hK11 _ _ (gc_seq fun K38 hK38 => gc_seq fun K39 hK39 => gc_region (Zf 4 Tryz.underlying31 rfl el29 (Zb 0 hS rfl (Zp rfl (gl_callf rfl rfl rfl rfl Tryz.func94 rfl rfl rfl (names0_calls sz _) ?_)))))
 rintro _ w99 ⟨rfl, hb99⟩
 refine ⟨_, rfl, ?_⟩
 have hS := hS.grown hb99
 refine Zp rfl (gl_nil (hK39 _ _ (gc_seq fun K40 hK40 => gc_region (Zp rfl (Zp rfl (gl_nil (hK40 _ _ (gc_cond_f rfl (gc_skip (hK38 _ _ (gc_seq fun K41 hK41 => gc_region (Zp rfl (Zp rfl (Zp rfl (Zp rfl (gl_nil (hK41 _ _ (gc_ret ?_))))))))))))))))))
 simp only [XR]
 refine gk_ret3 rfl rfl rfl rfl ?_
 exact ⟨⟨A7, ss.length, c7, by rw [hsv]⟩, hS.below⟩
theorem check_calls (s0 : Sh) (A : Option Addr) (c : Nat) (xs : List Lx) (w : World) (hs : s0.ok) {ok : Nat → Prop} (hrd : RdS w ok lxC 14 A xs) (hD : ∀ x ∈ xs, LyM w ok x) :
 Calls Tryz.prog 38 ⟨[.agg ⟨netC s0 A xs.length c⟩]⟩ w fun e w' => e = .returned (.tuple #[.int .i64 (shapesV s0 xs).1, .int .i64 (shapesV s0 xs).2]) ∧ Below w.heap.size w w' := by
 refine gc_enter (N := 15) Tryz.func38 rfl rfl rfl [(0, _)] rfl ?_
 have hS := St.start w
 refine gc_seq fun K1 hK1 => gc_region (gl_box hS rfl rfl rfl rfl rfl fun g1 w1 hS => ?_)
 refine Zp rfl (Zp rfl (gl_nil (hK1 _ _ (gc_seq fun K2 hK2 => gc_region (Zg 0 Tryz.underlying31 el31 hS rfl (gl_callf rfl rfl rfl rfl Tryz.func70 rfl rfl rfl (shapes_calls s0 A c xs _ hs (hrd.old (by decide) hS) fun x hx => (hD x hx).old hS) ?_))))))
 rintro _ w9 ⟨⟨A9, n9, c9, rfl⟩, hb9⟩
 refine ⟨_, rfl, ?_⟩
 have hS := hS.grown hb9
 refine Zp rfl (Zp rfl (Zp rfl (Zp rfl (Zp rfl (Zp rfl (Zp rfl (gl_nil (hK2 _ _ (gc_seq fun K3 hK3 => gc_region (Zp rfl (Zp rfl (Zp rfl (Zp rfl (gl_nil (hK3 _ _ (gc_ret (gk_ret2 rfl rfl rfl ?_)))))))))))))))))
 exact ⟨rfl, hS.below⟩
end Go.Proofs.YtnomlloaahoceaaGreatDoor
