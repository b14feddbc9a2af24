/- Plain words for chapter 6: networks and questions. No program in sight; no condition. -/
import Derived.Test.YtkfhablonnjgeaaDoorRoS
namespace Go.Proofs.YtkfhablonnjgeaaDoor
set_option linter.unusedVariables false
set_option linter.unusedSimpArgs false
/-- A layer with its lists. -/
structure Lx where
  L : Ly
  lw : List Nat
  lb : List Nat
  lz : List (Nat × Nat)
  lzb : List (Nat × Nat)
@[reducible] def lxC (x : Lx) : List Value := lyC x.L
def numsV (l : List Nat) : Bool := l.all nmB
def parsV (l : List (Nat × Nat)) : Bool := l.all fun z => nmB z.1 && nmB z.2
def layV (x : Lx) (s : Sh) : Int :=
  if (listsV x.L s).2 ≠ 0 then (listsV x.L s).2 else if wholeV x.L s x.lw.length x.lb.length x.lz.length x.lzb.length = false then 63 else
  if (numsV x.lw && numsV x.lb && parsV x.lz && parsV x.lzb) = false then 64 else 0
def wtsV (x : Lx) : Int := x.lw.length + x.lb.length + 2 * (x.lz.length + x.lzb.length)
deriving instance DecidableEq for Sh
/-- From layer i on: the shapes ahead, the weights ahead. -/
def shpGo (i : Nat) (ss : List Sh) (w : Int) : List Lx → Int × Int
  | [] => (0, 0)
  | x :: xs =>
    if layV x (ss.getD i ⟨0, 0, 0⟩) ≠ 0 then (layV x (ss.getD i ⟨0, 0, 0⟩), i + 1) else
    if x.L.k = 5 ∧ ((i : Int) < x.L.fr ∨ ss.getD x.L.fr.toNat ⟨0, 0, 0⟩ ≠ ss.getD i ⟨0, 0, 0⟩) then (66, i + 1) else
    if 65536 < w + wtsV x then (65, i + 1) else shpGo (i + 1) (ss ++ [(outV x.L (ss.getD i ⟨0, 0, 0⟩)).1]) (w + wtsV x) xs
def shapesV (s : Sh) (xs : List Lx) : Int × Int := if (sizeV s).2 ≠ 0 then ((sizeV s).2, 0) else if 64 < xs.length then (65, 0) else shpGo 0 [s] 0 xs
theorem layV_0 {x : Lx} {s : Sh} (h : layV x s = 0) : (outV x.L s).2 = 0 := by
  unfold layV at h
  by_cases h1 : (listsV x.L s).2 ≠ 0
  · rw [if_pos h1] at h; exact absurd h h1
  · have h2 : (listsV x.L s).2 = 0 := by simpa using h1
    unfold listsV at h2
    by_cases h3 : (outV x.L s).2 ≠ 0
    · rw [if_pos h3] at h2; exact h2
    · simpa using h3
theorem numsV_at {l : List Nat} {i : Nat} {u : Nat} (h : l[i]? = some u) : numsV (l.take (i + 1)) = (numsV (l.take i) && nmB u) := by
  unfold numsV; rw [List.take_add_one, h]; simp
theorem parsV_at {l : List (Nat × Nat)} {i : Nat} {u : Nat × Nat} (h : l[i]? = some u) : parsV (l.take (i + 1)) = (parsV (l.take i) && (nmB u.1 && nmB u.2)) := by
  unfold parsV; rw [List.take_add_one, h]; simp
theorem numsV_no {l : List Nat} {u : Nat} (h : u ∈ l) (hu : nmB u = false) : numsV l = false := by
  unfold numsV
  rw [List.all_eq_false]
  exact ⟨u, h, by simp [hu]⟩
theorem parsV_no {l : List (Nat × Nat)} {u : Nat × Nat} (h : u ∈ l) (hu : (nmB u.1 && nmB u.2) = false) : parsV l = false := by
  unfold parsV
  rw [List.all_eq_false]
  exact ⟨u, h, by simpa using hu⟩
/-- A list that must have n numbers. -/
def listV (l : List Nat) (n : Int) : Int := if (l.length : Int) ≠ n then 63 else if numsV l = false then 64 else 0
def listsGo (n at_ : Int) : List (List Nat) → Int × Int
  | [] => (0, 0)
  | l :: ls => if listV l n ≠ 0 then (listV l n, at_) else listsGo n (at_ + 1) ls
/-- A question's numbers and lists. -/
structure Px where
  C : List Nat
  G : List (List Nat)
  T : Int
  M : List (List Nat)
  K : Int
  D : Int
  S : Int
def propV (p : Px) (n out : Int) : Int × Int :=
  if n < 1 ∨ 256 < n ∨ out < 1 ∨ 256 < out then (1, 0) else
  if listV p.C n ≠ 0 then (listV p.C n, 0) else
  if 256 < p.G.length then (65, 0) else
  if (listsGo n 1 p.G).1 ≠ 0 then listsGo n 1 p.G else
  if p.T < -1 ∨ out ≤ p.T then (68, 0) else
  if 64 < p.M.length then (65, 0) else
  if (listsGo (out + 1) (1 + p.G.length) p.M).1 ≠ 0 then listsGo (out + 1) (1 + p.G.length) p.M else
  if p.M.length = 0 ∧ (p.T < 0 ∨ out = 1) then (68, 0) else
  if p.K < 1 ∨ 8 < p.K ∨ p.D < 0 ∨ 8 < p.D ∨ p.S < 1 ∨ 1024 < p.S then (69, 0) else (0, 0)
end Go.Proofs.YtkfhablonnjgeaaDoor
