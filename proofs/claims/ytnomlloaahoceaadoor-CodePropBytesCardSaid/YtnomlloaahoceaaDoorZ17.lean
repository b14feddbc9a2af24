/- Contracts of functions that CodePropBytes reaches, and words to say them. No condition. -/
import Derived.Test.YtnomlloaahoceaaDoorZ16
import Derived.Test.YtnomlloaahoceaaDoorZ12
/- Contracts of package code: a question read from bytes. No condition. -/
namespace Go.Proofs.YtnomlloaahoceaaDoor
open Go.RowKit
set_option linter.unusedVariables false
set_option linter.unusedSimpArgs false
/-! ### what is told -/
def dpTail (l : List UInt8) (p : Px) (tgt at_ : Int) : Ex Px :=
  if (formV p).1 ≠ 0 then .error ((formV p).1, tgt) else match tlV l at_ with | some x => .error x | none => .ok p
def dpNums (l : List UInt8) (p : Px) (tgt at_ : Int) : Ex Px :=
  match rU l at_ with | .error x => .error x | .ok (k, a) => match rU l a with | .error x => .error x | .ok (d, b) => match rU l b with | .error x => .error x | .ok (s, c) => dpTail l ⟨p.C, p.G, p.T, p.M, k, d, s⟩ tgt c
def dpClaims (l : List UInt8) (p : Px) (tgt : Int) : Nat → List (List Nat) → Int → Ex Px
  | 0, M, at_ => dpNums l ⟨p.C, p.G, p.T, M, p.K, p.D, p.S⟩ tgt at_
  | k + 1, M, at_ => match rU l at_ with
    | .error x => .error x
    | .ok (m, a) => if m < 2 ∨ 257 < m ∨ (0 < M.length ∧ m ≠ (M.getD 0 []).length) then .error (63, at_) else match rFs l m.toNat a with | .error x => .error x | .ok (us, b) => dpClaims l p tgt k (M ++ [us]) b
def dpM (l : List UInt8) (p : Px) (tgt at_ : Int) : Ex Px :=
  match rU l at_ with | .error x => .error x | .ok (c, a) => if 64 < c then .error (65, at_) else dpClaims l p tgt c.toNat [] a
def dpT (l : List UInt8) (p : Px) (at_ : Int) : Ex Px :=
  match rU l at_ with | .error x => .error x | .ok (t, a) => dpM l ⟨p.C, p.G, t - 1, p.M, p.K, p.D, p.S⟩ at_ a
def dpRows (l : List UInt8) (p : Px) : Nat → List (List Nat) → Int → Ex Px
  | 0, G, at_ => dpT l ⟨p.C, G, p.T, p.M, p.K, p.D, p.S⟩ at_
  | k + 1, G, at_ => match rFs l p.C.length at_ with | .error x => .error x | .ok (us, b) => dpRows l p k (G ++ [us]) b
def dpG (l : List UInt8) (p : Px) (at_ : Int) : Ex Px :=
  match rU l at_ with | .error x => .error x | .ok (k, a) => if 256 < k then .error (65, at_) else dpRows l p k.toNat [] a
def dpN (l : List UInt8) : Ex Px :=
  match rU l 5 with
    | .error x => .error x
    | .ok (n, a) => if n = 0 ∨ 256 < n then .error (65, 5) else match rFs l n.toNat a with | .error x => .error x | .ok (C, b) => dpG l ⟨C, [], 0, [], 0, 0, 0⟩ b
def decPropV (l : List UInt8) : Ex Px :=
  match hdV [65, 77, 66, 80] l with
  | some x => .error x
  | none => dpN l
section
variable {l : List UInt8} {p : Px} {x : Int × Int} {tgt at_ a b v : Int} {n k : Nat} {us : List Nat} {M G : List (List Nat)}
theorem decPropV_h (h : hdV [65, 77, 66, 80] l = some x) : decPropV l = .error x := by unfold decPropV; rw [h]
theorem decPropV_0 (h : hdV [65, 77, 66, 80] l = none) : decPropV l = dpN l := by unfold decPropV; rw [h]
theorem dpN_e (h : rU l 5 = .error x) : dpN l = .error x := by unfold dpN; rw [h]
theorem dpN_b (h : rU l 5 = .ok (v, a)) (hb : v = 0 ∨ 256 < v) : dpN l = .error (65, 5) := by unfold dpN; rw [h]; exact if_pos hb
theorem dpN_f (h : rU l 5 = .ok ((n : Int), a)) (hb : ¬ ((n : Int) = 0 ∨ 256 < (n : Int))) (h2 : rFs l n a = .error x) : dpN l = .error x := by unfold dpN; rw [h]; refine (if_neg hb).trans ?_; rw [Int.toNat_natCast, h2]
theorem dpN_0 (h : rU l 5 = .ok ((n : Int), a)) (hb : ¬ ((n : Int) = 0 ∨ 256 < (n : Int))) (h2 : rFs l n a = .ok (us, b)) : dpN l = dpG l ⟨us, [], 0, [], 0, 0, 0⟩ b := by unfold dpN; rw [h]; refine (if_neg hb).trans ?_; rw [Int.toNat_natCast, h2]
theorem dpGx_e (h : rU l at_ = .error x) : dpG l p at_ = .error x := by unfold dpG; rw [h]
theorem dpGx_b (h : rU l at_ = .ok (v, a)) (hb : 256 < v) : dpG l p at_ = .error (65, at_) := by unfold dpG; rw [h]; exact if_pos hb
theorem dpGx_0 (h : rU l at_ = .ok ((k : Int), a)) (hb : ¬ 256 < (k : Int)) : dpG l p at_ = dpRows l p k [] a := by unfold dpG; rw [h]; refine (if_neg hb).trans ?_; rw [Int.toNat_natCast]
theorem dpRows_e (hn : n = k + 1) (h : rFs l p.C.length at_ = .error x) : dpRows l p n G at_ = .error x := by subst hn; unfold dpRows; rw [h]
theorem dpRows_s (hn : n = k + 1) (h : rFs l p.C.length at_ = .ok (us, b)) : dpRows l p n G at_ = dpRows l p k (G ++ [us]) b := by
  subst hn
  show (match rFs l p.C.length at_ with | .error x => Except.error x | .ok (us, b) => dpRows l p k (G ++ [us]) b) = _
  rw [h]
theorem dpT_e (h : rU l at_ = .error x) : dpT l p at_ = .error x := by unfold dpT; rw [h]
theorem dpT_0 (h : rU l at_ = .ok (v, a)) : dpT l p at_ = dpM l ⟨p.C, p.G, v - 1, p.M, p.K, p.D, p.S⟩ at_ a := by unfold dpT; rw [h]
theorem dpM_e (h : rU l at_ = .error x) : dpM l p tgt at_ = .error x := by unfold dpM; rw [h]
theorem dpM_b (h : rU l at_ = .ok (v, a)) (hb : 64 < v) : dpM l p tgt at_ = .error (65, at_) := by unfold dpM; rw [h]; exact if_pos hb
theorem dpM_0 (h : rU l at_ = .ok ((k : Int), a)) (hb : ¬ 64 < (k : Int)) : dpM l p tgt at_ = dpClaims l p tgt k [] a := by unfold dpM; rw [h]; refine (if_neg hb).trans ?_; rw [Int.toNat_natCast]
theorem dpClaims_e (hn : n = k + 1) (h : rU l at_ = .error x) : dpClaims l p tgt n M at_ = .error x := by subst hn; unfold dpClaims; rw [h]
theorem dpClaims_b (hn : n = k + 1) (h : rU l at_ = .ok (v, a)) (hb : v < 2 ∨ 257 < v ∨ (0 < M.length ∧ v ≠ (M.getD 0 []).length)) : dpClaims l p tgt n M at_ = .error (63, at_) := by
  subst hn; unfold dpClaims; rw [h]; exact if_pos hb
theorem dpClaims_f {m : Nat} (hn : n = k + 1) (h : rU l at_ = .ok ((m : Int), a)) (hb : ¬ ((m : Int) < 2 ∨ 257 < (m : Int) ∨ (0 < M.length ∧ (m : Int) ≠ (M.getD 0 []).length))) (h2 : rFs l m a = .error x) : dpClaims l p tgt n M at_ = .error x := by
  subst hn; unfold dpClaims; rw [h]; refine (if_neg hb).trans ?_; rw [Int.toNat_natCast, h2]
theorem dpClaims_s {m : Nat} (hn : n = k + 1) (h : rU l at_ = .ok ((m : Int), a)) (hb : ¬ ((m : Int) < 2 ∨ 257 < (m : Int) ∨ (0 < M.length ∧ (m : Int) ≠ (M.getD 0 []).length))) (h2 : rFs l m a = .ok (us, b)) : dpClaims l p tgt n M at_ = dpClaims l p tgt k (M ++ [us]) b := by
  subst hn
  show (match rU l at_ with
    | .error x => Except.error x
    | .ok (m, a) => if m < 2 ∨ 257 < m ∨ (0 < M.length ∧ m ≠ (M.getD 0 []).length) then .error (63, at_) else match rFs l m.toNat a with | .error x => .error x | .ok (us, b) => dpClaims l p tgt k (M ++ [us]) b) = _
  rw [h]; refine (if_neg hb).trans ?_; rw [Int.toNat_natCast, h2]
theorem dpNums_1 (h : rU l at_ = .error x) : dpNums l p tgt at_ = .error x := by unfold dpNums; rw [h]
theorem dpNums_2 {k : Int} (h : rU l at_ = .ok (k, a)) (h2 : rU l a = .error x) : dpNums l p tgt at_ = .error x := by simp only [dpNums, h, h2]
theorem dpNums_3 {k d : Int} (h : rU l at_ = .ok (k, a)) (h2 : rU l a = .ok (d, b)) (h3 : rU l b = .error x) : dpNums l p tgt at_ = .error x := by simp only [dpNums, h, h2, h3]
theorem dpNums_0 {k d s c : Int} (h : rU l at_ = .ok (k, a)) (h2 : rU l a = .ok (d, b)) (h3 : rU l b = .ok (s, c)) : dpNums l p tgt at_ = dpTail l ⟨p.C, p.G, p.T, p.M, k, d, s⟩ tgt c := by simp only [dpNums, h, h2, h3]
theorem dpTail_b (h : (formV p).1 ≠ 0) : dpTail l p tgt at_ = .error ((formV p).1, tgt) := by unfold dpTail; exact if_pos h
theorem dpTail_t (h : ¬ (formV p).1 ≠ 0) (h2 : tlV l at_ = some x) : dpTail l p tgt at_ = .error x := by unfold dpTail; refine (if_neg h).trans ?_; rw [h2]
theorem dpTail_0 (h : ¬ (formV p).1 ≠ 0) (h2 : tlV l at_ = none) : dpTail l p tgt at_ = .ok p := by unfold dpTail; refine (if_neg h).trans ?_; rw [h2]
end
/-! ### what is put off -/
@[reducible] def dpD (g3 g4 : Nat) : List Deferred := [{ target := .fn (.func 58) #[.pointer (some ⟨g3, 0, none⟩), .pointer (some ⟨g4, 0, none⟩)], args := #[] }]
@[reducible] def zP : List Value := [.slice none 0 0, .slice none 0 0, .int .i64 0, .slice none 0 0, .int .i64 0, .int .i64 0, .int .i64 0]
@[reducible] def dpE (g2 g3 g4 : Nat) : Env := [(2, .pointer (some ⟨g2, 0, none⟩)), (3, .pointer (some ⟨g3, 0, none⟩)), (4, .pointer (some ⟨g4, 0, none⟩))]
@[reducible] def dpL (g2 g3 g4 : Nat) (zp : List Value) (x y : Int) : List It := [.blk g2 25 zp, .blk g3 34 [.int .i64 x], .blk g4 3 [.int .i64 y]]
def DpQ (R : Ending → World → Prop) (B : Nat) (w0 : World) (er : Int × Int → Prop) : Exit → Act → World → Prop
  | .panic ch, a, w => ∃ g2 g3 g4 x y it L, er (x, y) ∧ ch = pn x y ∧ Fr ⟨Tryd.f28.ntmps, dpD g3 g4⟩ a (dpE g2 g3 g4) ∧ St B w0 w (it :: dpL g2 g3 g4 zP 0 0 ++ L)
  | ex, a, w => bodyPostD Tryd.prog Tryd.f28 R ex a w
theorem Fr.unput {N : Nt} {a : Act} {e : Env} {d : Nat} {v : Value} (h : Fr N (a.put (some d) v) e) (hd : look e d = none) : Fr N a e := by
  refine ⟨h.defers, by have := h.size; simpa [Act.put] using this, fun t u hu => ?_⟩
  have h1 := h.get t u hu
  have hne : ¬ d = t := by rintro rfl; rw [hd] at hu; cases hu
  simpa [Act.put, Array.getElem?_setIfInBounds, hne] using h1
theorem dpPan {R : Ending → World → Prop} {B : Nat} {w0 : World} {er : Int × Int → Prop} {d : Nat} (hd : ∀ g2 g3 g4, look (dpE g2 g3 g4) d = none) : PanOk (DpQ R B w0 er) d := by
  rintro c a w v ⟨g2, g3, g4, x, y, it, L, h1, h2, h3, h4⟩
  exact ⟨g2, g3, g4, x, y, it, L, h1, h2, h3.unput (hd g2 g3 g4), h4⟩
theorem gk_dp {R : Ending → World → Prop} {B : Nat} {w0 w : World} {er : Int × Int → Prop} {e : Env} {g2 g3 g4 : Nat} {x y : Int} {it : It} {L : List It} (he : subEnv e (dpE g2 g3 g4)) (h1 : er (x, y)) (hS : St B w0 w (it :: dpL g2 g3 g4 zP 0 0 ++ L)) :
    GK ⟨Tryd.f28.ntmps, dpD g3 g4⟩ e (DpQ R B w0 er (.panic (pn x y))) w := fun a ha => ⟨g2, g3, g4, x, y, it, L, h1, rfl, ha.sub he, hS⟩
theorem dpQ_to {R : Ending → World → Prop} {B : Nat} {w0 : World} {er : Int × Int → Prop} (hR : ∀ x y w L, er (x, y) → St B w0 w L → R (.returned (.tuple #[.agg ⟨zP⟩, .int .i64 x, .int .i64 y])) w) :
    ∀ ex a w, DpQ R B w0 er ex a w → bodyPostD Tryd.prog Tryd.f28 R ex a w
  | .normal, a, w, h => h
  | .ret, a, w, h => h
  | .exit i, a, w, h => h
  | .goto l, a, w, h => h
  | .outgrown, a, w, h => h
  | .panic ch, a, w, h => by
    obtain ⟨g2, g3, g4, x, y, it, L, h1, rfl, h3, h4⟩ := h
    show Leaves _ _ a.tmps R a.defers (.panicking (pn x y)) w
    rw [h3.defers]
    have hp : (it :: dpL g2 g3 g4 zP 0 0 ++ L).Perm (.blk g3 34 [.int .i64 0] :: .blk g4 3 [.int .i64 0] :: .blk g2 25 zP :: it :: L) := by
      show (it :: ([_, _, _] ++ L)).Perm (([_, _, _] : List It) ++ it :: L)
      exact (List.Perm.cons it ((p_cab _ _ _).append_right L)).trans (List.perm_middle).symm
    refine leaves_cons (by simp) (by simp [go_sem]) ((catchP_calls g3 g4 x y 0 0 [] _ w (h4.permute hp)).mono ?_)
    rintro en u' w' ⟨rfl, rfl, hS⟩
    refine ⟨.tuple #[.agg ⟨zP⟩, .int .i64 x, .int .i64 y], ?_, hR x y w' _ h1 hS⟩
    have e1 : resV Tryd.prog w' (dpE g2 g3 g4) (.cell 2 25) (.agg ⟨zP⟩) := ⟨_, rfl, run_loadVarB 2 Tryd.underlying25 rfl el25 hS rfl rfl rfl⟩
    have e2 : resV Tryd.prog w' (dpE g2 g3 g4) (.cell 3 34) (.int .i64 x) := ⟨_, rfl, run_loadVar1 0 hT hS rfl rfl rfl rfl⟩
    have e3 : resV Tryd.prog w' (dpE g2 g3 g4) (.cell 4 3) (.int .i64 y) := ⟨_, rfl, run_loadVar1 1 hT hS rfl rfl rfl rfl⟩
    rw [results_eq, show Tryd.f28.results = #[.cell 2 25, .cell 3 34, .cell 4 3] from rfl]
    simp [run_resR h3 e1, run_resR h3 e2, run_resR h3 e3]
theorem gk_dpret {R : Ending → World → Prop} {B : Nat} {w0 w : World} {er : Int × Int → Prop} {e : Env} {g2 g3 g4 : Nat} {zp : List Value} {x y : Int} {it : It} {L : List It} (hz : zp.length = 7) (he : subEnv e (dpE g2 g3 g4)) (hS : St B w0 w (it :: dpL g2 g3 g4 zp x y ++ L))
    (h : R (.returned (.tuple #[.agg ⟨zp⟩, .int .i64 x, .int .i64 y])) w) :
    GK ⟨Tryd.f28.ntmps, dpD g3 g4⟩ e (DpQ R B w0 er .ret) w := fun a ha => by
  show Leaves _ _ a.tmps R a.defers .returning w
  have h3 := ha.sub he
  rw [ha.defers]
  refine leaves_cons (by simp) (by simp [go_sem]) ((catchP_idle g3 g4 w).mono ?_)
  rintro en u' w' ⟨rfl, rfl, rfl⟩
  refine ⟨.tuple #[.agg ⟨zp⟩, .int .i64 x, .int .i64 y], ?_, h⟩
  have e1 : resV Tryd.prog w' (dpE g2 g3 g4) (.cell 2 25) (.agg ⟨zp⟩) := ⟨_, rfl, run_loadVarB 1 Tryd.underlying25 rfl el25 hS rfl (by rw [List.drop_zero, List.take_of_length_le (by omega)]) hz⟩
  have e2 : resV Tryd.prog w' (dpE g2 g3 g4) (.cell 3 34) (.int .i64 x) := ⟨_, rfl, run_loadVar1 2 hT hS rfl rfl rfl rfl⟩
  have e3 : resV Tryd.prog w' (dpE g2 g3 g4) (.cell 4 3) (.int .i64 y) := ⟨_, rfl, run_loadVar1 3 hT hS rfl rfl rfl rfl⟩
  rw [results_eq, show Tryd.f28.results = #[.cell 2 25, .cell 3 34, .cell 4 3] from rfl]
  simp [run_resR h3 e1, run_resR h3 e2, run_resR h3 e3]
end Go.Proofs.YtnomlloaahoceaaDoor

