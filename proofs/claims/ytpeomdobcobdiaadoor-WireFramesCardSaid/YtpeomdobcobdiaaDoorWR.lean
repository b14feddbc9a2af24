/- The walk of WireFrames. No condition. -/
import Derived.Test.YtpeomdobcobdiaaDoorW13
import Derived.Test.YtpeomdobcobdiaaDoorWJ
import Derived.Test.YtpeomdobcobdiaaDoorLibK
namespace Go.Proofs.YtpeomdobcobdiaaDoor
open Go.RowKit
set_option linter.unusedVariables false
set_option linter.unusedSimpArgs false
/-- Slices that Laid made of these bytes. -/
def LParts (w : World) (ok : Nat → Prop) (S : List Sl) (D : List (List UInt8)) : Prop :=
  S.length = D.length ∧ ∀ i, i < S.length → (S.getD i sl0).2.1 = (D.getD i []).length ∧ (D.getD i []).length + 73 ≤ (S.getD i sl0).2.2 ∧ RdE w ok uB (S.getD i sl0).1 (D.getD i [] ++ marks)
theorem LParts.nil {w : World} {ok : Nat → Prop} : LParts w ok [] [] := ⟨rfl, fun i hi => absurd hi (Nat.not_lt_zero i)⟩
theorem LParts.snoc {w : World} {ok : Nat → Prop} {S : List Sl} {D : List (List UInt8)} (h : LParts w ok S D) {A : Option Addr} {c : Nat} {l : List UInt8} (hr : RdE w ok uB A (l ++ marks)) (hc : l.length + 73 ≤ c) : LParts w ok (S ++ [(A, l.length, c)]) (D ++ [l]) := by
  refine ⟨by simp [h.1], fun i hi => ?_⟩
  have hD := h.1
  by_cases h2 : i < S.length
  · have e1 : (S ++ [(A, l.length, c)]).getD i sl0 = S.getD i sl0 := by simp [List.getD_eq_getElem?_getD, List.getElem?_append_left h2]
    have e2 : (D ++ [l]).getD i [] = D.getD i [] := by simp [List.getD_eq_getElem?_getD, List.getElem?_append_left (show i < D.length by omega)]
    rw [e1, e2]; exact h.2 i h2
  · have hi2 : i = S.length := by simp at hi; omega
    subst hi2
    have e1 : (S ++ [(A, l.length, c)]).getD S.length sl0 = (A, l.length, c) := by simp [List.getD_eq_getElem?_getD]
    have e2 : (D ++ [l]).getD S.length [] = l := by rw [hD]; simp [List.getD_eq_getElem?_getD]
    rw [e1, e2]; exact ⟨rfl, hc, hr⟩
theorem laid_in {B : Nat} {w0 w : World} {x y : It} {ok : Nat → Prop} {wk : World} {A : Option Addr} {c : Nat} {el : TypeId} {m : Nat} {l : List UInt8} (hS : St B w0 w [x, y, .keep ok wk, .row A c el 1 m ((l ++ marks).map uB)]) :
    ∃ ok', St B w0 w [x, y, .keep ok' w] ∧ (∀ S D, LParts wk ok S D → LParts w ok' S D) ∧ RdE w ok' uB A (l ++ marks) := by
  have h2 : St B w0 w ([x, y] ++ [.keep ok wk, .row A c el 1 m ((l ++ marks).map uB)]) := hS
  refine ⟨_, h2.fuse, fun S D hL => ⟨hL.1, fun i hi => ?_⟩, ?_⟩
  · obtain ⟨h3, h4, h5⟩ := hL.2 i hi
    exact ⟨h3, h4, (hS.keepRd (i := 2) rfl h5).weaken fun b hb => .inl hb⟩
  · have ho : Owns w B A c el 1 m ((l ++ marks).map uB) := hS.at (i := 3) rfl
    have hm : m = (l ++ marks).length := by have := ho.1; simpa using this.symm
    subst hm
    exact ho.rdFp.weaken fun b hb => .inr hb
theorem LParts.here {B : Nat} {w0 w : World} {L : List It} {i : Nat} {ok : Nat → Prop} {wk : World} {S : List Sl} {D : List (List UInt8)} (h : LParts wk ok S D) (hS : St B w0 w L) (hi : L[i]? = some (.keep ok wk)) : LParts w ok S D :=
  ⟨h.1, fun j hj => let ⟨h1, h2, h3⟩ := h.2 j hj; ⟨h1, h2, hS.keepRd hi h3⟩⟩
theorem LParts.parts {w : World} {ok : Nat → Prop} {S : List Sl} {D : List (List UInt8)} (h : LParts w ok S D) (hD : ∀ i, (D.getD i []).length ≤ 4611686018427387904) : Parts w S D :=
  ⟨h.1, fun i hi => ⟨(h.2 i hi).1, hD i, (h.2 i hi).2.2.left.all⟩⟩
def lay (l : List UInt8) : List UInt8 := l.take 1048676
theorem LaidN_calls (A : Option Addr) (n c : Nat) (l : List UInt8) (w : World) {ok : Nat → Prop} (h1 : RdE w ok uB A l) (hn : n = l.length) (hc : n ≤ c) :
    Calls Tryd.prog 19 ⟨[.slice A n c]⟩ w fun e w' => ∃ A' c', e = .returned (.slice A' (lay l).length c') ∧
      Owns w' w.heap.size A' c' 5 1 ((lay l).length + 73) ((lay l ++ marks).map uB) ∧ Below w.heap.size w w' := by
  subst hn; exact Laid_calls A c l w h1 hc
theorem IntactT_calls (A A2 : Option Addr) (n n2 c c2 : Nat) (l : List UInt8) (w : World) {ok ok2 : Nat → Prop} (h1 : RdE w ok uB A (l ++ marks)) (hn : n = l.length) (hc : l.length + 73 ≤ c) (hb : l.length ≤ 1048676) (h2 : RdE w ok2 uB A2 (l ++ marks)) (hn2 : n2 = l.length) :
    Calls Tryd.prog 22 ⟨[.slice A n c, .slice A2 n2 c2]⟩ w fun e w' => ∃ v, e = .returned v ∧ Below w.heap.size w w' ∧ (Inf.det (.bool true)).holds v w' := by
  subst hn; subst hn2
  have h3 : RdE w ok uB A (l ++ [201, 202, 203]) := by rw [marks_eq] at h1; exact h1.left
  exact (Intact_calls A A2 c c2 l [201, 202, 203] l w h3 rfl (by omega) (by omega) h2.left).mono fun e w' ⟨g1, g2⟩ => ⟨_, g1, g2, by simp [Inf.holds]⟩
theorem lay_len (l : List UInt8) : (lay l).length ≤ 1048676 := by simp [lay]; omega
theorem take_lay (D : List (List UInt8)) (i : Nat) (h : i < D.length) : (D.map lay).take (i + 1) = (D.map lay).take i ++ [lay (D.getD i [])] := by
  have hl : i < (D.map lay).length := by simpa using h
  rw [List.take_add_one, List.getElem?_eq_getElem hl]; simp [List.getD_eq_getElem?_getD, h]
theorem getD_lay (D : List (List UInt8)) (i : Nat) : ((D.map lay).getD i []).length ≤ 1048676 := by
  rw [List.getD_eq_getElem?_getD, List.getElem?_map]
  cases D[i]? with
  | none => simp
  | some x => simpa using lay_len x
theorem WireFrames_calls (A : Option Addr) (c : Nat) (S : List Sl) (D : List (List UInt8)) (Ab Ar : Option Addr) (cb cr : Nat) (lb lr : List UInt8) (at_ : Int) (w : World) (hU : Tabs w) {ok okb okr : Nat → Prop} (h1 : RdE w ok sV A S) (hp : Parts w S D) (hc : S.length ≤ c) (hcs : ∀ i, i < S.length → (S.getD i sl0).2.1 ≤ (S.getD i sl0).2.2)
    (hb : RdE w okb uB Ab lb) (hr : RdE w okr uB Ar lr) (hcb : lb.length ≤ cb) (hcr : lr.length ≤ cr) (hlb : lb.length ≤ 140737488355328) (hlr : lr.length ≤ 140737488355328) (hmin : -9223372036854775808 ≤ at_) :
    Calls Tryd.prog 8 ⟨[.slice A S.length c, .slice Ab lb.length cb, .slice Ar lr.length cr, .int .i64 at_]⟩ w fun e w' => e = .returned (.bool true) ∧ Below w.heap.size w w' := by
  refine gc_enter (N := 142) Tryd.func8 rfl rfl rfl [(0, _), (1, _), (2, _), (3, _)] rfl ?_
  have hS := St.start w
  refine gc_seq fun K1 hK1 => ?_
  refine gc_region ?_
  refine gl_op rfl rfl rfl (op_pure hT rfl) ?_
  refine gl_nil ?_
  refine hK1 _ _ ?_
  clear hK1; try clear K1
  refine gc_seq fun K2 hK2 => ?_
  refine gc_seq fun K3 hK3 => ?_
  refine gc_region ?_
  refine gl_callf rfl rfl rfl rfl Tryd.func15 rfl rfl rfl (told_calls _ hU) ?_
  rintro _ w27 ⟨rfl, hb27⟩
  refine ⟨_, rfl, ?_⟩
  have hS := hS.grown hb27
  refine gl_op rfl rfl rfl (op_pure hT rfl) ?_
  refine gl_nil ?_
  refine hK3 _ _ ?_
  clear hK3; try clear K3
  refine gc_cond_f rfl ?_
  refine gc_skip ?_
  refine hK2 _ _ ?_
  clear hK2; try clear K2
  refine gc_cut (fun a w' => Fr 142 a [(0, .slice A (S.take 20).length c), (1, .slice Ab lb.length cb), (2, .slice Ar lr.length cr), (3, .int .i64 at_)] ∧ St w.heap.size w w' []) ?_ ?_
  · skip
    refine gc_seq fun K4 hK4 => ?_
    refine gc_region ?_
    refine gl_op rfl rfl rfl (op_pure hT rfl) ?_
    refine gl_op rfl rfl rfl (op_pure hT rfl) ?_
    refine gl_op rfl rfl rfl (op_pure hT rfl) ?_
    refine gl_nil ?_
    refine hK4 _ _ ?_
    clear hK4; try clear K4
    refine gc_cond rfl rfl (fun c31 => ?_) (fun c31 => ?_)
    · try simp only [decide_eq_true_eq, decide_eq_false_iff_not, Bool.not_eq_true', Bool.not_eq_false', Int.not_lt, Int.not_le, Nat.not_lt, Nat.not_le, Bool.true_eq, Bool.false_eq, reduceCtorEq] at c31
      refine gc_region ?_
      refine gl_op rfl rfl rfl (op_pure hT rfl) ?_
      refine gl_op rfl rfl rfl (op_slice_h hT el22 rfl rfl rfl rfl (by first | omega | (simp; omega)) (by first | omega | (simp; omega))) ?_
      refine gl_op rfl rfl rfl (op_pure hT rfl) ?_
      refine gl_nil ?_
      intro a ha
      refine ⟨ha.sub ⟨?_, rfl, rfl, rfl, trivial⟩, hS⟩
      first
        | (show some (Value.slice A (20 : Int).toNat c) = _; rw [List.length_take, Nat.min_eq_left (by omega)]; rfl)
        | (show some (Value.slice A S.length c) = _; rw [List.length_take, Nat.min_eq_right (by omega)])
    · try simp only [decide_eq_true_eq, decide_eq_false_iff_not, Bool.not_eq_true', Bool.not_eq_false', Int.not_lt, Int.not_le, Nat.not_lt, Nat.not_le, Bool.true_eq, Bool.false_eq, reduceCtorEq] at c31
      refine gc_skip ?_
      intro a ha
      refine ⟨ha.sub ⟨?_, rfl, rfl, rfl, trivial⟩, hS⟩
      first
        | (show some (Value.slice A (20 : Int).toNat c) = _; rw [List.length_take, Nat.min_eq_left (by omega)]; rfl)
        | (show some (Value.slice A S.length c) = _; rw [List.length_take, Nat.min_eq_right (by omega)])
  rintro a w1 ⟨hF, hS⟩
  refine gc_of hF ?_
  have h1 := h1.take 20
  have hp := hp.take 20
  have hcs : ∀ i, i < (S.take 20).length → ((S.take 20).getD i sl0).2.1 ≤ ((S.take 20).getD i sl0).2.2 := by
    intro i hi
    have hi2 : i < 20 ∧ i < S.length := by rw [List.length_take] at hi; omega
    have e1 : (S.take 20).getD i sl0 = S.getD i sl0 := by simp [List.getD_eq_getElem?_getD, List.getElem?_take, hi2.1]
    rw [e1]; exact hcs i hi2.2
  have hlen : (S.take 20).length ≤ 20 := by simp; omega
  generalize S.take 20 = S at h1 hp hcs hlen ⊢
  generalize D.take 20 = D at hp
  refine gc_seq fun K5 hK5 => ?_
  refine gc_region ?_
  refine gl_op rfl rfl rfl (op_pure hT rfl) ?_
  refine gl_op rfl rfl rfl (op_pure hT rfl) ?_
  refine gl_nil ?_
  refine hK5 _ _ ?_
  clear hK5; try clear K5
  refine gc_seq fun K6 hK6 => ?_
  refine gc_seq fun K7 hK7 => ?_
  refine gc_region ?_
  refine gl_op rfl rfl rfl (op_pure hT rfl) ?_
  refine gl_nil ?_
  refine hK7 _ _ ?_
  clear hK7; try clear K7
  refine gc_block ?_
  have hS := ((hS.nil 22 1).nil 22 1).keep0
  have hD := hp.1
  refine gc_loop (fun k a w' => ∃ (i : Nat) (A9 A10 : Option Addr) (c9 c10 : Nat) (S9 S10 : List Sl) (ok : Nat → Prop) (wk : World), Fr 142 a [(0, .slice A S.length c), (1, .slice Ab lb.length cb), (2, .slice Ar lr.length cr), (3, .int .i64 at_), (9, .slice A9 S9.length c9), (10, .slice A10 S10.length c10), (11, .int .i64 i)] ∧ i ≤ S.length ∧ k = S.length - i + 1 ∧
    S9.length = i ∧ S10.length = i ∧ LParts wk ok S9 ((D.map lay).take i) ∧ LParts wk ok S10 ((D.map lay).take i) ∧
    St w.heap.size w w' [.row A9 c9 22 1 S9.length (S9.map sV), .row A10 c10 22 1 S10.length (S10.map sV), .keep ok wk]) (S.length + 1) ?_ ?_ ?_
  · intro a ha; exact ⟨0, none, none, 0, 0, [], [], _, _, ha.sub ⟨rfl, rfl, rfl, rfl, rfl, rfl, rfl, trivial⟩, by omega, by omega, rfl, rfl, LParts.nil, LParts.nil, hS⟩
  · rintro a w ⟨i, _, _, _, _, _, _, _, _, _, h1, h2, _⟩; omega
  rintro k a w2 ⟨i, A9, A10, c9, c10, S9, S10, ok, wk, hF, hi, hk, h9, h10, hl9, hl10, hS⟩
  refine gc_of hF ?_
  refine gc_seq fun K8 hK8 => ?_
  refine gc_seq fun K9 hK9 => ?_
  refine gc_region ?_
  refine gl_op rfl rfl rfl (op_pure hT rfl) ?_
  refine gl_op rfl rfl rfl (op_pure hT rfl) ?_
  refine gl_op rfl rfl rfl (op_pure hT rfl) ?_
  refine gl_op rfl rfl rfl (op_pure hT rfl) ?_
  refine gl_nil ?_
  refine hK9 _ _ ?_
  clear hK9; try clear K9
  refine gc_cond rfl rfl (fun c37 => ?_) (fun c37 => ?_)
  · try simp only [decide_eq_true_eq, decide_eq_false_iff_not, Bool.not_eq_true', Bool.not_eq_false', Int.not_lt, Int.not_le, Nat.not_lt, Nat.not_le, Bool.true_eq, Bool.false_eq, reduceCtorEq] at c37
    refine gc_skip ?_
    refine hK8 _ _ ?_
    clear hK8; try clear K8
    refine gc_seq fun K10 hK10 => ?_
    refine gc_block ?_
    refine gc_seq fun K11 hK11 => ?_
    refine gc_region ?_
    refine gl_op rfl rfl rfl (op_pure hT rfl) ?_
    refine gl_op rfl rfl rfl (op_pure hT rfl) ?_
    refine gl_op rfl rfl rfl (op_pure hT rfl) ?_
    refine gl_ix sl0 hT (h1.old hS) rfl rfl rfl rfl rfl el22.cellsOf.1 el22.cellsOf.2 rfl (by simp) rfl (by omega) (by first | omega | (simp; omega)) fun p43 hp43 => ?_
    have hil : i < S.length := by omega
    have hpi := hp.2 i hil
    have hcsi := hcs i hil
    have hst : (S.getD ((i : Int)).toNat sl0) = S.getD i sl0 := by simp
    rw [hst] at hp43
    refine gl_op rfl rfl rfl (op_load hT rfl rfl rfl rfl hp43) ?_
    refine gl_callf rfl rfl rfl rfl Tryd.func19 rfl rfl rfl (LaidN_calls (S.getD i sl0).1 (S.getD i sl0).2.1 (S.getD i sl0).2.2 (D.getD i []) _ (hpi.2.2.old hS) hpi.1 hcsi) ?_
    rintro _ w45 ⟨A45, c45, rfl, hr45, hb45⟩
    refine ⟨_, rfl, ?_⟩
    have hc45 : (lay (D.getD i [])).length + 73 ≤ c45 := hr45.cap.1
    have hS := hS.addRow hb45 hr45
    obtain ⟨ok', hS, htr, hrd45⟩ := laid_in hS
    have hl9 := (htr _ _ hl9).snoc hrd45 hc45
    have hl10 := htr _ _ hl10
    refine gl_lit hT hS el22 rfl rfl rfl rfl rfl rfl rfl rfl rfl fun g46 w46 hS => ?_
    refine gl_append 0 hT hS el22 (hS.rd (i := 3) rfl) rfl rfl rfl rfl rfl rfl rfl rfl rfl (by omega) (by omega) fun A47 c47 w47 hS => ?_
    have hS := hS.erase 3
    have hS : St w.heap.size w w47 [.row A47 c47 22 1 (S9.length + 1) (S9.map sV ++ [sV (A45, (lay (D.getD i [])).length, c45)]), .row A10 c10 22 1 S10.length (S10.map sV), .keep ok' w45] := hS
    refine gl_op rfl rfl rfl (op_pure hT rfl) ?_
    refine gl_nil ?_
    refine hK11 _ _ ?_
    clear hK11; try clear K11
    refine gc_region ?_
    refine gl_op rfl rfl rfl (op_pure hT rfl) ?_
    refine gl_op rfl rfl rfl (op_pure hT rfl) ?_
    refine gl_op rfl rfl rfl (op_pure hT rfl) ?_
    refine gl_ix sl0 hT (h1.old hS) rfl rfl rfl rfl rfl el22.cellsOf.1 el22.cellsOf.2 rfl (by simp) rfl (by omega) (by first | omega | (simp; omega)) fun p51 hp51 => ?_
    have hst : (S.getD ((i : Int)).toNat sl0) = S.getD i sl0 := by simp
    rw [hst] at hp51
    refine gl_op rfl rfl rfl (op_load hT rfl rfl rfl rfl hp51) ?_
    refine gl_callf rfl rfl rfl rfl Tryd.func19 rfl rfl rfl (LaidN_calls (S.getD i sl0).1 (S.getD i sl0).2.1 (S.getD i sl0).2.2 (D.getD i []) _ (hpi.2.2.old hS) hpi.1 hcsi) ?_
    rintro _ w53 ⟨A53, c53, rfl, hr53, hb53⟩
    refine ⟨_, rfl, ?_⟩
    have hc53 : (lay (D.getD i [])).length + 73 ≤ c53 := hr53.cap.1
    have hS := hS.addRow hb53 hr53
    obtain ⟨ok2, hS, htr2, hrd53⟩ := laid_in hS
    have hl9 := htr2 _ _ hl9
    have hl10 := (htr2 _ _ hl10).snoc hrd53 hc53
    refine gl_lit hT hS el22 rfl rfl rfl rfl rfl rfl rfl rfl rfl fun g54 w54 hS => ?_
    refine gl_append 1 hT hS el22 (hS.rd (i := 3) rfl) rfl rfl rfl rfl rfl rfl rfl rfl rfl (by omega) (by omega) fun A55 c55 w55 hS => ?_
    have hS := hS.erase 3
    have hS : St w.heap.size w w55 [.row A47 c47 22 1 (S9.length + 1) (S9.map sV ++ [sV (A45, (lay (D.getD i [])).length, c45)]), .row A55 c55 22 1 (S10.length + 1) (S10.map sV ++ [sV (A53, (lay (D.getD i [])).length, c53)]), .keep ok2 w53] := hS
    refine gl_op rfl rfl rfl (op_pure hT rfl) ?_
    refine gl_nil ?_
    refine hK10 _ _ ?_
    clear hK10; try clear K10
    refine gc_region ?_
    refine gl_op rfl rfl rfl (op_pure hT rfl) ?_
    first | refine gl_fit hT rfl rfl rfl rfl (by omega) ?_ | refine gl_op rfl rfl rfl (op_pure hT rfl) ?_
    refine gl_op rfl rfl rfl (op_pure hT rfl) ?_
    refine gl_nil ?_
    intro a ha
    have e9 : S9.map sV ++ [sV (A45, (lay (D.getD i [])).length, c45)] = (S9 ++ [(A45, (lay (D.getD i [])).length, c45)]).map sV := by simp
    have e10 : S10.map sV ++ [sV (A53, (lay (D.getD i [])).length, c53)] = (S10 ++ [(A53, (lay (D.getD i [])).length, c53)]).map sV := by simp
    have f9 : S9.length + 1 = (S9 ++ [(A45, (lay (D.getD i [])).length, c45)]).length := by simp
    have f10 : S10.length + 1 = (S10 ++ [(A53, (lay (D.getD i [])).length, c53)]).length := by simp
    rw [e9, e10, f9, f10] at hS
    rw [f9, f10] at ha
    rw [← take_lay D i (by omega)] at hl9 hl10
    exact ⟨i + 1, A47, A55, c47, c55, _, _, ok2, w53, ha.sub ⟨rfl, rfl, rfl, rfl, rfl, rfl, rfl, trivial⟩, by omega, by omega, by simp [h9], by simp [h10], hl9, hl10, hS⟩
  · try simp only [decide_eq_true_eq, decide_eq_false_iff_not, Bool.not_eq_true', Bool.not_eq_false', Int.not_lt, Int.not_le, Nat.not_lt, Nat.not_le, Bool.true_eq, Bool.false_eq, reduceCtorEq] at c37
    refine gc_exit ?_
    refine hK6 _ _ ?_
    clear hK6; try clear K6
    refine gc_seq fun K12 hK12 => ?_
    refine gc_seq fun K13 hK13 => ?_
    refine gc_region ?_
    refine gl_op rfl rfl rfl (op_pure hT rfl) ?_
    have hie : i = S.length := by omega
    have hall : (D.map lay).take i = D.map lay := List.take_of_length_le (by rw [List.length_map]; omega)
    rw [hall] at hl9 hl10
    refine gl_callf rfl rfl rfl rfl Tryd.func23 rfl rfl rfl (Sum_calls A9 c9 S9 (D.map lay) _ (hS.rdE (i := 0) rfl) ((hl9.here hS (i := 2) rfl).parts (fun j => by have := getD_lay D j; omega)) (by omega)) ?_
    rintro _ w57 ⟨rfl, hb57⟩
    refine ⟨_, rfl, ?_⟩
    have hS := hS.grown hb57
    refine gl_op rfl rfl rfl (op_pure hT rfl) ?_
    refine gl_callf rfl rfl rfl rfl Tryd.func39 rfl rfl rfl (rSum_calls A10 c10 S10 (D.map lay) _ (hS.rdE (i := 1) rfl) ((hl10.here hS (i := 2) rfl).parts (fun j => by have := getD_lay D j; omega)) (by omega)) ?_
    rintro _ _ ⟨rfl, n59, rfl⟩
    refine ⟨_, rfl, ?_⟩
    have hS := hS.dr n59
    refine gl_op rfl rfl rfl (op_pure hT rfl) ?_
    refine gl_spell 60 (v := .bool false) rfl (by simp) ?_
    refine gl_nil ?_
    refine hK13 _ _ ?_
    clear hK13; try clear K13
    refine gc_cond_f rfl ?_
    refine gc_skip ?_
    refine hK12 _ _ ?_
    clear hK12; try clear K12
    refine gc_seq fun K14 hK14 => ?_
    refine gc_seq fun K15 hK15 => ?_
    refine gc_region ?_
    refine gl_op rfl rfl rfl (op_pure hT rfl) ?_
    refine gl_nil ?_
    refine hK15 _ _ ?_
    clear hK15; try clear K15
    refine gc_block ?_
    refine gc_loop (fun k a w' => ∃ (j : Nat), Fr 142 a [(1, .slice Ab lb.length cb), (2, .slice Ar lr.length cr), (3, .int .i64 at_), (9, .slice A9 S9.length c9), (10, .slice A10 S10.length c10), (12, .int .i64 j)] ∧ j ≤ S9.length ∧ k = S9.length - j + 1 ∧
      St w.heap.size w w' [.row A9 c9 22 1 S9.length (S9.map sV), .row A10 c10 22 1 S10.length (S10.map sV), .keep ok wk]) (S9.length + 1) ?_ ?_ ?_
    · intro a ha; exact ⟨0, ha.sub ⟨rfl, rfl, rfl, rfl, rfl, rfl, trivial⟩, by omega, by omega, hS⟩
    · rintro a w ⟨j, _, h1, h2, _⟩; omega
    rintro k2 a w3 ⟨j, hF, hj, hk2, hS⟩
    refine gc_of hF ?_
    refine gc_seq fun K16 hK16 => ?_
    refine gc_seq fun K17 hK17 => ?_
    refine gc_region ?_
    refine gl_op rfl rfl rfl (op_pure hT rfl) ?_
    refine gl_op rfl rfl rfl (op_pure hT rfl) ?_
    refine gl_op rfl rfl rfl (op_pure hT rfl) ?_
    refine gl_op rfl rfl rfl (op_pure hT rfl) ?_
    refine gl_nil ?_
    refine hK17 _ _ ?_
    clear hK17; try clear K17
    refine gc_cond rfl rfl (fun c64 => ?_) (fun c64 => ?_)
    · try simp only [decide_eq_true_eq, decide_eq_false_iff_not, Bool.not_eq_true', Bool.not_eq_false', Int.not_lt, Int.not_le, Nat.not_lt, Nat.not_le, Bool.true_eq, Bool.false_eq, reduceCtorEq] at c64
      have hx : ((j : Int)).toNat = j := by omega
      obtain ⟨d9, hA9, hq9⟩ := (hS.rdE (enc := sV) (l := S9) (i := 0) rfl).at sl0 (i := (j : Int)) (by omega) (by omega)
      obtain ⟨d10, hA10, hq10⟩ := (hS.rdE (enc := sV) (l := S10) (i := 1) rfl).at sl0 (i := (j : Int)) (by omega) (by omega)
      rw [hx] at hq9 hq10
      have hk9 := (hl9.here hS (i := 2) rfl).2 j (by omega)
      have hk10 := (hl10.here hS (i := 2) rfl).2 j (by omega)
      have hlj := getD_lay D j
      refine gc_skip ?_
      refine hK16 _ _ ?_
      clear hK16; try clear K16
      refine gc_seq fun K18 hK18 => ?_
      refine gc_block ?_
      refine gc_seq fun K19 hK19 => ?_
      refine gc_grow (e0 := [(1, .slice Ab lb.length cb), (2, .slice Ar lr.length cr), (3, .int .i64 at_), (9, .slice A9 S9.length c9), (10, .slice A10 S10.length c10), (12, .int .i64 j)]) (by kernel_rfl) ⟨rfl, rfl, rfl, rfl, rfl, rfl, trivial⟩ (by kernel_rfl) (by kernel_rfl) (by kernel_rfl) ?_
      refine gg_op [] rfl rfl rfl (by kernel_rfl) (fun w1 hw1 => by have hS := hS.grown hw1; exact op_pure hT rfl) ?_
      refine gg_op [] rfl rfl rfl (by kernel_rfl) (fun w1 hw1 => by have hS := hS.grown hw1; exact op_pure hT rfl) ?_
      refine gg_op [67, 68] rfl rfl rfl (by kernel_rfl) (fun w1 hw1 => by have hS := hS.grown hw1; exact op_indexAddr hT rfl rfl el22.cellsOf.1 el22.cellsOf.2 rfl rfl (by omega) (by omega) hA9) ?_
      refine gg_op [69] rfl rfl rfl (by kernel_rfl) (fun w1 hw1 => by have hS := hS.grown hw1; exact op_load hT rfl rfl rfl rfl (cellOf hw1 (by rw [hx]; exact hq9))) ?_
      refine gg_op [] rfl rfl rfl (by kernel_rfl) (fun w1 hw1 => by have hS := hS.grown hw1; exact op_pure hT rfl) ?_
      refine gg_op [] rfl rfl rfl (by kernel_rfl) (fun w1 hw1 => by have hS := hS.grown hw1; exact op_pure hT rfl) ?_
      refine gg_op [71, 72] rfl rfl rfl (by kernel_rfl) (fun w1 hw1 => by have hS := hS.grown hw1; exact op_indexAddr hT rfl rfl el22.cellsOf.1 el22.cellsOf.2 rfl rfl (by omega) (by omega) hA10) ?_
      refine gg_op [73] rfl rfl rfl (by kernel_rfl) (fun w1 hw1 => by have hS := hS.grown hw1; exact op_load hT rfl rfl rfl rfl (cellOf hw1 (by rw [hx]; exact hq10))) ?_
      refine gg_call [70, 74] (.det (.bool true)) (trivial) rfl rfl rfl (by kernel_rfl) rfl Tryd.func22 rfl rfl rfl (fun w1 hw1 => ?_) ?_
      · have hS := hS.grown hw1
        exact IntactT_calls (S9.getD j sl0).1 (S10.getD j sl0).1 _ _ (S9.getD j sl0).2.2 (S10.getD j sl0).2.2 ((D.map lay).getD j []) w1 (hk9.2.2.grown hw1) hk9.1 hk9.2.1 hlj (hk10.2.2.grown hw1) hk10.1
      refine gg_op [75] rfl rfl rfl (by kernel_rfl) (fun w1 hw1 => by have hS := hS.grown hw1; exact op_pure hT rfl) ?_
      refine gg_nil [76] fun wr16 hwr16 => ?_
      have hS := hS.grown hwr16
      refine hK19 _ _ ?_
      clear hK19; try clear K19
      refine gc_cond_f rfl ?_
      refine gc_skip ?_
      refine hK18 _ _ ?_
      clear hK18; try clear K18
      refine gc_region ?_
      refine gl_op rfl rfl rfl (op_pure hT rfl) ?_
      first | refine gl_fit hT rfl rfl rfl rfl (by omega) ?_ | refine gl_op rfl rfl rfl (op_pure hT rfl) ?_
      refine gl_op rfl rfl rfl (op_pure hT rfl) ?_
      refine gl_nil ?_
      intro a ha
      exact ⟨j + 1, ha.sub ⟨rfl, rfl, rfl, rfl, rfl, rfl, trivial⟩, by omega, by omega, hS⟩
    · try simp only [decide_eq_true_eq, decide_eq_false_iff_not, Bool.not_eq_true', Bool.not_eq_false', Int.not_lt, Int.not_le, Nat.not_lt, Nat.not_le, Bool.true_eq, Bool.false_eq, reduceCtorEq] at c64
      refine gc_exit ?_
      refine hK14 _ _ ?_
      clear hK14; try clear K14
      refine gc_seq fun K20 hK20 => ?_
      refine gc_region ?_
      refine gl_op rfl rfl rfl (op_pure hT rfl) ?_
      refine gl_callf rfl rfl rfl rfl Tryd.func19 rfl rfl rfl (Laid_calls Ab cb lb _ (hb.old hS) hcb) ?_
      rintro _ w78 ⟨A78, c78, rfl, hr78, hb78⟩
      refine ⟨_, rfl, ?_⟩
      have hS := hS.addRow hb78 hr78; have hlenb : (lb.take 1048676).length ≤ 1048676 := by simp; omega
      refine gl_op rfl rfl rfl (op_pure hT rfl) ?_
      refine gl_callf rfl rfl rfl rfl Tryd.func19 rfl rfl rfl (Laid_calls Ab cb lb _ (hb.old hS) hcb) ?_
      rintro _ w80 ⟨A80, c80, rfl, hr80, hb80⟩
      refine ⟨_, rfl, ?_⟩
      have hS := hS.addRow hb80 hr80
      refine gl_op rfl rfl rfl (op_pure hT rfl) ?_
      refine gl_op rfl rfl rfl (op_pure hT rfl) ?_
      refine gl_nil ?_
      refine hK20 _ _ ?_
      clear hK20; try clear K20
      refine gc_seq fun K21 hK21 => ?_
      refine gc_region ?_
      refine gl_op rfl rfl rfl (op_pure hT rfl) ?_
      refine gl_callf rfl rfl rfl rfl Tryd.func40 rfl rfl rfl (Frame_calls A78 c78 (lb.take 1048676) _ (laid_rd 3 hS rfl) (by omega)) ?_
      rintro _ w83 ⟨A83, c83, rfl, hr83, hb83⟩
      refine ⟨_, rfl, ?_⟩
      have hS := hS.addRow hb83 hr83
      refine gl_op rfl rfl rfl (op_pure hT rfl) ?_
      refine gl_op rfl rfl rfl (op_pure hT rfl) ?_
      refine gl_op rfl rfl rfl (op_pure hT rfl) ?_
      refine gl_op rfl rfl rfl (op_pure hT rfl) ?_
      refine gl_op rfl rfl rfl (op_pure hT rfl) ?_
      refine gl_nil ?_
      refine hK21 _ _ ?_
      clear hK21; try clear K21
      refine gc_seq fun K22 hK22 => ?_
      refine gc_region ?_
      refine gl_op rfl rfl rfl (op_pure hT rfl) ?_
      refine gl_callf rfl rfl rfl rfl Tryd.func41 rfl rfl rfl (rFrame_calls A80 c80 (lb.take 1048676) _ (laid_rd 4 hS rfl) (by omega)) ?_
      rintro _ w88 ⟨A88, c88, rfl, hr88, hb88⟩
      refine ⟨_, rfl, ?_⟩
      have hS := hS.addRow hb88 hr88
      refine gl_op rfl rfl rfl (op_pure hT rfl) ?_
      refine gl_op rfl rfl rfl (op_pure hT rfl) ?_
      refine gl_op rfl rfl rfl (op_pure hT rfl) ?_
      refine gl_op rfl rfl rfl (op_pure hT rfl) ?_
      refine gl_op rfl rfl rfl (op_pure hT rfl) ?_
      refine gl_nil ?_
      refine hK22 _ _ ?_
      clear hK22; try clear K22
      refine gc_seq fun K23 hK23 => ?_
      refine gc_seq fun K24 hK24 => ?_
      refine gc_region ?_
      refine gl_op rfl rfl rfl (op_pure hT rfl) ?_
      refine gl_op rfl rfl rfl (op_pure hT rfl) ?_
      refine gl_op rfl rfl rfl (op_pure hT rfl) ?_
      refine gl_spell 93 (v := .bool false) rfl (by simp) ?_
      refine gl_op rfl rfl rfl (op_pure hT rfl) ?_
      refine gl_un rfl rfl rfl rfl ?_
      refine gl_op rfl rfl rfl (op_pure hT rfl) ?_
      refine gl_un rfl rfl rfl rfl ?_
      refine gl_op rfl rfl rfl (op_pure hT rfl) ?_
      refine gl_un rfl rfl rfl rfl ?_
      refine gl_callf rfl rfl rfl rfl Tryd.func18 rfl rfl rfl (Same_calls _ _ _ _ (frameV (lb.take 1048676)).1 (frameV (lb.take 1048676)).1 _ (hS.rdE (i := 5) rfl) (hS.rdE (i := 6) rfl) (by have := (hS.cap (i := 5) rfl); omega)) ?_
      rintro _ _ ⟨rfl, n97, rfl⟩
      refine ⟨_, rfl, ?_⟩
      have hS := hS.dr n97
      refine gl_spell 97 (v := .bool true) rfl (by simp) ?_
      refine gl_un rfl rfl rfl rfl ?_
      refine gl_op rfl rfl rfl (op_pure hT rfl) ?_
      refine gl_op rfl rfl rfl (op_pure hT rfl) ?_
      refine gl_op rfl rfl rfl (op_pure hT rfl) ?_
      refine gl_un rfl rfl rfl rfl ?_
      refine gl_op rfl rfl rfl (op_pure hT rfl) ?_
      refine gl_un rfl rfl rfl rfl ?_
      refine gl_op rfl rfl rfl (op_pure hT rfl) ?_
      refine gl_un rfl rfl rfl rfl ?_
      have hcap := (hS.cap (i := 3) rfl).1
      refine gl_callf rfl rfl rfl rfl Tryd.func22 rfl rfl rfl (Intact_calls A78 A80 c78 c80 (lb.take 1048676) [201, 202, 203] (lb.take 1048676) _ (laid_rd3 3 hS rfl) rfl (by omega) (by omega) (laid_rd 4 hS rfl)) ?_
      rintro _ w103 ⟨rfl, hb103⟩
      refine ⟨_, rfl, ?_⟩
      have hS := hS.grown hb103
      refine gl_spell 103 (v := .bool true) rfl (by simp) ?_
      refine gl_un rfl rfl rfl rfl ?_
      refine gl_op rfl rfl rfl (op_pure hT rfl) ?_
      refine gl_op rfl rfl rfl (op_pure hT rfl) ?_
      refine gl_nil ?_
      refine hK24 _ _ ?_
      clear hK24; try clear K24
      refine gc_cond_f rfl ?_
      refine gc_skip ?_
      refine hK23 _ _ ?_
      clear hK23; try clear K23
      refine gc_seq fun K25 hK25 => ?_
      refine gc_region ?_
      refine gl_op rfl rfl rfl (op_pure hT rfl) ?_
      refine gl_callf rfl rfl rfl rfl Tryd.func19 rfl rfl rfl (Laid_calls Ar cr lr _ (hr.old hS) hcr) ?_
      rintro _ w107 ⟨A107, c107, rfl, hr107, hb107⟩
      refine ⟨_, rfl, ?_⟩
      have hS := hS.addRow hb107 hr107; have hlenr : (lr.take 1048676).length ≤ 1048676 := by simp; omega
      refine gl_op rfl rfl rfl (op_pure hT rfl) ?_
      refine gl_callf rfl rfl rfl rfl Tryd.func19 rfl rfl rfl (Laid_calls Ar cr lr _ (hr.old hS) hcr) ?_
      rintro _ w109 ⟨A109, c109, rfl, hr109, hb109⟩
      refine ⟨_, rfl, ?_⟩
      have hS := hS.addRow hb109 hr109
      refine gl_op rfl rfl rfl (op_pure hT rfl) ?_
      refine gl_op rfl rfl rfl (op_pure hT rfl) ?_
      refine gl_nil ?_
      refine hK25 _ _ ?_
      clear hK25; try clear K25
      refine gc_seq fun K26 hK26 => ?_
      refine gc_region ?_
      refine gl_op rfl rfl rfl (op_pure hT rfl) ?_
      refine gl_op rfl rfl rfl (op_pure hT rfl) ?_
      have hcap7 := (hS.cap (i := 7) rfl).1
      have hcap8 := (hS.cap (i := 8) rfl).1
      refine gl_callf rfl rfl rfl rfl Tryd.func42 rfl rfl rfl (ReadFrame_calls A107 c107 (lr.take 1048676) at_ _ (laid_rd 7 hS rfl) (by omega) (by omega)) ?_
      rintro _ w113 ⟨A113, c113, rfl, hr113, hb113⟩
      refine ⟨_, rfl, ?_⟩
      have hS := hS.addRow hb113 hr113
      refine gl_op rfl rfl rfl (op_pure hT rfl) ?_
      refine gl_op rfl rfl rfl (op_pure hT rfl) ?_
      refine gl_op rfl rfl rfl (op_pure hT rfl) ?_
      refine gl_op rfl rfl rfl (op_pure hT rfl) ?_
      refine gl_op rfl rfl rfl (op_pure hT rfl) ?_
      refine gl_op rfl rfl rfl (op_pure hT rfl) ?_
      refine gl_op rfl rfl rfl (op_pure hT rfl) ?_
      refine gl_nil ?_
      refine hK26 _ _ ?_
      clear hK26; try clear K26
      refine gc_seq fun K27 hK27 => ?_
      refine gc_region ?_
      refine gl_op rfl rfl rfl (op_pure hT rfl) ?_
      refine gl_op rfl rfl rfl (op_pure hT rfl) ?_
      refine gl_callf rfl rfl rfl rfl Tryd.func43 rfl rfl rfl (rReadFrame_calls A109 c109 (lr.take 1048676) at_ _ (laid_rd 8 hS rfl) (by omega) (by omega) hmin) ?_
      rintro _ w120 ⟨A120, c120, rfl, hr120, hb120⟩
      refine ⟨_, rfl, ?_⟩
      have hS := hS.addRow hb120 hr120
      refine gl_op rfl rfl rfl (op_pure hT rfl) ?_
      refine gl_op rfl rfl rfl (op_pure hT rfl) ?_
      refine gl_op rfl rfl rfl (op_pure hT rfl) ?_
      refine gl_op rfl rfl rfl (op_pure hT rfl) ?_
      refine gl_op rfl rfl rfl (op_pure hT rfl) ?_
      refine gl_op rfl rfl rfl (op_pure hT rfl) ?_
      refine gl_op rfl rfl rfl (op_pure hT rfl) ?_
      refine gl_nil ?_
      refine hK27 _ _ ?_
      clear hK27; try clear K27
      refine gc_seq fun K28 hK28 => ?_
      refine gc_region ?_
      refine gl_op rfl rfl rfl (op_pure hT rfl) ?_
      refine gl_op rfl rfl rfl (op_pure hT rfl) ?_
      refine gl_callf rfl rfl rfl rfl Tryd.func18 rfl rfl rfl (Same_calls _ _ _ _ (readFrameV (lr.take 1048676) at_).1 (readFrameV (lr.take 1048676) at_).1 _ (hS.rdE (i := 9) rfl) (hS.rdE (i := 10) rfl) (by have := (hS.cap (i := 9) rfl); omega)) ?_
      rintro _ _ ⟨rfl, n126, rfl⟩
      refine ⟨_, rfl, ?_⟩
      have hS := hS.dr n126
      refine gl_spell 126 (v := .bool true) rfl (by simp) ?_
      refine gl_op rfl rfl rfl (op_pure hT rfl) ?_
      refine gl_un rfl rfl rfl rfl ?_
      refine gl_op rfl rfl rfl (op_pure hT rfl) ?_
      refine gl_un rfl rfl rfl rfl ?_
      refine gl_op rfl rfl rfl (op_pure hT rfl) ?_
      refine gl_un rfl rfl rfl rfl ?_
      refine gl_op rfl rfl rfl (op_pure hT rfl) ?_
      refine gl_spell 130 (v := .bool true) rfl (by simp) ?_
      refine gl_op rfl rfl rfl (op_pure hT rfl) ?_
      refine gl_op rfl rfl rfl (op_pure hT rfl) ?_
      refine gl_un rfl rfl rfl rfl ?_
      refine gl_op rfl rfl rfl (op_pure hT rfl) ?_
      refine gl_un rfl rfl rfl rfl ?_
      refine gl_op rfl rfl rfl (op_pure hT rfl) ?_
      refine gl_un rfl rfl rfl rfl ?_
      refine gl_op rfl rfl rfl (op_pure hT rfl) ?_
      refine gl_spell 135 (v := .bool true) rfl (by simp) ?_
      refine gl_op rfl rfl rfl (op_pure hT rfl) ?_
      refine gl_op rfl rfl rfl (op_pure hT rfl) ?_
      refine gl_un rfl rfl rfl rfl ?_
      refine gl_op rfl rfl rfl (op_pure hT rfl) ?_
      refine gl_un rfl rfl rfl rfl ?_
      refine gl_op rfl rfl rfl (op_pure hT rfl) ?_
      refine gl_un rfl rfl rfl rfl ?_
      have hcap := (hS.cap (i := 7) rfl).1
      refine gl_callf rfl rfl rfl rfl Tryd.func22 rfl rfl rfl (Intact_calls A107 A109 c107 c109 (lr.take 1048676) [201, 202, 203] (lr.take 1048676) _ (laid_rd3 7 hS rfl) rfl (by omega) (by omega) (laid_rd 8 hS rfl)) ?_
      rintro _ w140 ⟨rfl, hb140⟩
      refine ⟨_, rfl, ?_⟩
      have hS := hS.grown hb140
      refine gl_spell 140 (v := .bool true) rfl (by simp) ?_
      refine gl_op rfl rfl rfl (op_pure hT rfl) ?_
      refine gl_op rfl rfl rfl (op_pure hT rfl) ?_
      refine gl_nil ?_
      refine hK28 _ _ ?_
      clear hK28; try clear K28
      refine gc_ret ?_
      try simp only [x_then_ret, x_block_ret]
      refine gk_ret1 rfl rfl ?_
      exact ⟨rfl, hS.below⟩
end Go.Proofs.YtpeomdobcobdiaaDoor
