/- Plain words for chapter 7: rows and windows. No program in sight; no condition. -/
import Derived.Test.YtkfhablonnjgeaaMdS
namespace Go.Proofs.Ytkfhablonnjgeaa
set_option linter.unusedVariables false
set_option linter.unusedSimpArgs false
@[reducible] def fV (b : Nat) : Value := .float .f64 b
@[reducible] def cV (z : Nat × Nat) : Value := .complex .f64 z.1 z.2
@[reducible] def nV (n : Int) : Value := .int .i64 n
/-- The sign turned. -/
def ngB (u : Nat) : Nat := u ^^^ 9223372036854775808
theorem ngB_lt {u : Nat} (h : u < 18446744073709551616) : ngB u < 18446744073709551616 := Nat.xor_lt_two_pow (n := 64) h (by decide)
structure Sp where
  c : Int
  y : Int
  x : Int
@[reducible] def spC (p : Sp) : List Value := [.int .i64 p.c, .int .i64 p.y, .int .i64 p.x]
def spotV (s : Sh) (i : Int) : Sp := ⟨i / (s.h * s.w), i / s.w % s.h, i % s.w⟩
def placeV (s : Sh) (p : Sp) : Int := (p.c * s.h + p.y) * s.w + p.x
/-- A place of the input within a window. -/
structure Se where
  at_ : Sp
  p : Int
  q : Int
@[reducible] def seC (e : Se) : List Value := [.int .i64 e.at_.c, .int .i64 e.at_.y, .int .i64 e.at_.x, .int .i64 e.p, .int .i64 e.q]
def winX (L : Ly) (s : Sh) (o : Sp) (c p q : Nat) : List Se :=
  if 0 ≤ o.y * L.sh - L.ph + p ∧ o.y * L.sh - L.ph + p < s.h ∧ 0 ≤ o.x * L.sw - L.pw + q ∧ o.x * L.sw - L.pw + q < s.w then [⟨⟨c, o.y * L.sh - L.ph + p, o.x * L.sw - L.pw + q⟩, p, q⟩] else []
def winQ (L : Ly) (s : Sh) (o : Sp) (c p : Nat) (n : Nat) : List Se := (List.range n).flatMap fun q => winX L s o c p q
def winP (L : Ly) (s : Sh) (o : Sp) (c : Nat) (n : Nat) : List Se := (List.range n).flatMap fun p => winQ L s o c p L.kw.toNat
def winC (L : Ly) (s : Sh) (o : Sp) (f n : Nat) : List Se := (List.range n).flatMap fun c => winP L s o (f + c) L.kh.toNat
theorem winQ_succ (L : Ly) (s : Sh) (o : Sp) (c p n : Nat) : winQ L s o c p (n + 1) = winQ L s o c p n ++ winX L s o c p n := by simp [winQ, List.range_succ, List.flatMap_append]
theorem winP_succ (L : Ly) (s : Sh) (o : Sp) (c n : Nat) : winP L s o c (n + 1) = winP L s o c n ++ winQ L s o c n L.kw.toNat := by simp [winP, List.range_succ, List.flatMap_append]
theorem winC_succ (L : Ly) (s : Sh) (o : Sp) (f n : Nat) : winC L s o f (n + 1) = winC L s o f n ++ winP L s o (f + n) L.kh.toNat := by simp [winC, List.range_succ, List.flatMap_append]
theorem winX_le (L : Ly) (s : Sh) (o : Sp) (c p q : Nat) : (winX L s o c p q).length ≤ 1 := by unfold winX; split <;> simp
theorem winQ_le (L : Ly) (s : Sh) (o : Sp) (c p n : Nat) : (winQ L s o c p n).length ≤ n := by
  induction n with
  | zero => simp [winQ]
  | succ n ih => rw [winQ_succ, List.length_append]; have := winX_le L s o c p n; omega
theorem winP_le (L : Ly) (s : Sh) (o : Sp) (c n : Nat) : (winP L s o c n).length ≤ n * L.kw.toNat := by
  induction n with
  | zero => simp [winP]
  | succ n ih => rw [winP_succ, List.length_append, Nat.add_mul]; have := winQ_le L s o c n L.kw.toNat; omega
theorem winC_le (L : Ly) (s : Sh) (o : Sp) (f n : Nat) : (winC L s o f n).length ≤ n * (L.kh.toNat * L.kw.toNat) := by
  induction n with
  | zero => simp [winC]
  | succ n ih => rw [winC_succ, List.length_append, Nat.add_mul]; have := winP_le L s o (f + n) L.kh.toNat; omega
/-- The window of an output coordinate. -/
def winV_ (L : Ly) (s out : Sh) (i : Int) : List Se := if L.k = 2 then winC L s (spotV out i) 0 s.c.toNat else winC L s (spotV out i) (spotV out i).c.toNat 1
def rangeI (n : Nat) : List Int := (List.range n).map (fun (j : Nat) => (j : Int))
theorem rangeI_succ (n : Nat) : rangeI (n + 1) = rangeI n ++ [(n : Int)] := by simp [rangeI, List.range_succ]
theorem rangeI_len (n : Nat) : (rangeI n).length = n := by simp [rangeI]
/-- One of the two real rows of a complex one. -/
def turnW (second : Bool) : List (Nat × Nat) → List Nat
  | [] => []
  | z :: r => (if second then [z.2, z.1] else [z.1, ngB z.2]) ++ turnW second r
theorem turnW_append (b : Bool) (l r : List (Nat × Nat)) : turnW b (l ++ r) = turnW b l ++ turnW b r := by
  induction l with
  | nil => rfl
  | cons z l ih => simp [turnW, ih]
theorem turnW_len (b : Bool) (l : List (Nat × Nat)) : (turnW b l).length = 2 * l.length := by
  induction l with
  | nil => rfl
  | cons z l ih => unfold turnW; cases b <;> simp [ih] <;> omega
/-- Have all lists the lengths that they must have? -/
def wholeV (L : Ly) (s : Sh) (nw nb nz nzb : Nat) : Bool := decide ((nw : Int) = (listsV L s).1.1) && decide ((nb : Int) = (listsV L s).1.2.1) && decide ((nz : Int) = (listsV L s).1.2.2.1) && decide ((nzb : Int) = (listsV L s).1.2.2.2)
structure Rw where
  cols : List Int
  w : List Nat
  b : Nat
  e : Int
/-- A row: the places, the numbers, the bias, the error. -/
def rowV (L : Ly) (lw lb : List Nat) (lz lzb : List (Nat × Nat)) (s : Sh) (i : Int) : Rw :=
  if (outV L s).2 ≠ 0 then ⟨[], [], 0, (outV L s).2⟩ else
  if L.k = 5 ∨ 6 < L.k then ⟨[], [], 0, 61⟩ else
  if wholeV L s lw.length lb.length lz.length lzb.length = false then ⟨[], [], 0, 63⟩ else
  if i < 0 ∨ (outS L s).c * (outS L s).h * (outS L s).w ≤ i then ⟨[], [], 0, 1⟩ else
  let n := s.c * s.h * s.w
  let o := spotV (outS L s) i
  if L.k = 1 then ⟨rangeI n.toNat, (lw.drop (i * n).toNat).take n.toNat, lb.getD i.toNat 0, 0⟩ else
  if L.k = 3 then ⟨[i], [lw.getD o.c.toNat 0], lb.getD o.c.toNat 0, 0⟩ else
  if L.k = 6 then ⟨rangeI n.toNat, turnW (decide (i % 2 = 1)) ((lz.drop (i / 2 * n / 2).toNat).take (n / 2).toNat), if i % 2 = 1 then (lzb.getD (i / 2).toNat (0, 0)).2 else (lzb.getD (i / 2).toNat (0, 0)).1, 0⟩ else
  let ws := winV_ L s (outS L s) i
  ⟨ws.map fun e => placeV s e.at_, ws.map fun e => if L.k = 2 then lw.getD ((((o.c * s.c + e.at_.c) * L.kh + e.p) * L.kw + e.q)).toNat 0 else L.a, if L.k = 2 then lb.getD o.c.toNat 0 else 0, 0⟩
end Go.Proofs.Ytkfhablonnjgeaa
