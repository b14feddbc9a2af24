/- Contracts of functions that CodeProps reaches, and words to say them. No condition. -/
import Derived.Test.YtnomlloaahoceaaDoorZ13
import Derived.Test.YtnomlloaahoceaaDoorZ03
import Derived.Test.YtnomlloaahoceaaDoorZ07
/- Contracts: numbers laid with marks behind, their bits, lists of bits compared. No condition. -/
namespace Go.Proofs.YtnomlloaahoceaaDoor
open Go.RowKit
set_option linter.unusedVariables false
set_option linter.unusedSimpArgs false
@[reducible] def mkF : Value := fV 13873417816952012800
def laidC (l : List Nat) : List Value := l.map fV ++ List.replicate 9 mkF
theorem bits_calls (A : Option Addr) (n c : Nat) (l : List Nat) (w : World) {ok : Nat → Prop} (h1 : RdE w ok fV A l) (hn : n = l.length) (hl : l.length ≤ 17592186044416) :
    Calls Tryd.prog 14 ⟨[.slice A n c]⟩ w fun e w' => ∃ A' c', e = .returned (.slice A' l.length c') ∧ St w.heap.size w w' [.row A' c' 77 1 l.length (l.map uV)] := by
  subst hn
  refine gc_enter (N := 20) Tryd.func14 rfl rfl rfl [(0, _)] rfl ?_
  have hS := St.start w
  refine gc_seq fun K1 hK1 => ?_
  refine gc_region ?_
  refine gl_op rfl rfl rfl (op_pure hT rfl) ?_
  refine gl_nil ?_
  refine hK1 _ _ ?_
  clear hK1; try clear K1
  refine gc_seq fun K2 hK2 => ?_
  refine gc_region ?_
  refine gl_op rfl rfl rfl (op_pure hT rfl) ?_
  refine gl_nil ?_
  refine hK2 _ _ ?_
  clear hK2; try clear K2
  refine gc_seq fun K3 hK3 => ?_
  refine gc_seq fun K4 hK4 => ?_
  refine gc_region ?_
  refine gl_op rfl rfl rfl (op_pure hT rfl) ?_
  refine gl_nil ?_
  refine hK4 _ _ ?_
  clear hK4; try clear K4
  refine gc_block ?_
  have hS := hS.nil 77 1
  refine gc_loop (fun k a w' => ∃ (i : Nat) (A' : Option Addr) (c' : Nat), Fr 20 a [(0, .slice A l.length c), (3, .slice A' i c'), (4, .int .i64 (i : Nat))] ∧ i ≤ l.length ∧ k = l.length + 1 - i ∧
    St w.heap.size w w' [.row A' c' 77 1 i ((l.take i).map uV)]) (l.length + 1) ?_ ?_ ?_
  · intro a ha; exact ⟨0, none, 0, ha.sub ⟨rfl, rfl, rfl, trivial⟩, by omega, by omega, hS⟩
  · rintro a w ⟨i, _, _, _, h1, h2, _⟩; omega
  rintro k a w1 ⟨i, A', c', hF, hi, hk, hS⟩
  refine gc_of hF ?_
  clear hF
  refine gc_seq fun K5 hK5 => ?_
  refine gc_seq fun K6 hK6 => ?_
  refine gc_region ?_
  refine gl_op rfl rfl rfl (op_pure hT rfl) ?_
  refine gl_op rfl rfl rfl (op_pure hT rfl) ?_
  refine gl_op rfl rfl rfl (op_pure hT rfl) ?_
  refine gl_op rfl rfl rfl (op_pure hT rfl) ?_
  refine gl_nil ?_
  refine hK6 _ _ ?_
  clear hK6; try clear K6
  refine gc_cond rfl rfl (fun c8 => ?_) (fun c8 => ?_)
  · try simp only [decide_eq_true_eq, decide_eq_false_iff_not, Bool.not_eq_true', Bool.not_eq_false', Int.not_lt, Int.not_le, Nat.not_lt, Nat.not_le, Bool.true_eq, Bool.false_eq, reduceCtorEq] at c8
    refine gc_skip ?_
    refine hK5 _ _ ?_
    clear hK5; try clear K5
    refine gc_seq fun K7 hK7 => ?_
    refine gc_block ?_
    refine gc_region ?_
    refine gl_op rfl rfl rfl (op_pure hT rfl) ?_
    refine gl_op rfl rfl rfl (op_pure hT rfl) ?_
    refine gl_op rfl rfl rfl (op_pure hT rfl) ?_
    have hil : i < l.length := by omega
    obtain ⟨u, hu⟩ : ∃ u, l[i]? = some u := ⟨_, List.getElem?_eq_getElem hil⟩
    obtain ⟨ad, hA, hc⟩ := (h1.old hS).at 0 (i := (i : Int)) (by omega) (by omega)
    have hug : l.getD ((i : Int)).toNat 0 = u := by rw [Int.toNat_natCast, List.getD_eq_getElem?_getD, hu]; rfl
    rw [hug] at hc
    have htake : l.take (i + 1) = l.take i ++ [u] := by rw [List.take_add_one, hu]; rfl
    refine gl_op rfl rfl rfl (op_indexAddr hT rfl rfl el62.cellsOf.1 el62.cellsOf.2 rfl rfl (by omega) (by omega) hA) ?_
    refine gl_op rfl rfl rfl (op_load hT rfl rfl rfl rfl hc) ?_
    refine gl_callf rfl rfl rfl rfl Tryd.func32 rfl rfl rfl (mBits_calls u _) ?_
    rintro _ _ ⟨rfl, n16, rfl⟩
    refine ⟨_, rfl, ?_⟩
    have hS := hS.dr n16
    refine gl_lit hT hS el77 rfl rfl rfl rfl rfl rfl rfl rfl rfl fun g17 w17 hS => ?_
    refine gl_append 0 hT hS el77 (hS.rd (i := 1) rfl) (rfl) rfl rfl rfl rfl rfl rfl rfl rfl (by first | omega | (simp; omega)) (by first | omega | (simp; omega)) fun A18 c18 w18 hS => ?_
    have hS := hS.erase 1
    refine gl_op rfl rfl rfl (op_pure hT rfl) ?_
    refine gl_nil ?_
    refine hK7 _ _ ?_
    clear hK7; try clear K7
    refine gc_region ?_
    refine gl_op rfl rfl rfl (op_pure hT rfl) ?_
    first | refine gl_fit hT rfl rfl rfl rfl (by omega) ?_ | refine gl_op rfl rfl rfl (op_pure hT rfl) ?_
    refine gl_op rfl rfl rfl (op_pure hT rfl) ?_
    refine gl_nil ?_
    intro a ha
    refine ⟨i + 1, A18, c18, ha.sub ⟨rfl, rfl, rfl, trivial⟩, by omega, by omega, ?_⟩
    rw [htake, List.map_append]
    exact hS
  · try simp only [decide_eq_true_eq, decide_eq_false_iff_not, Bool.not_eq_true', Bool.not_eq_false', Int.not_lt, Int.not_le, Nat.not_lt, Nat.not_le, Bool.true_eq, Bool.false_eq, reduceCtorEq] at c8
    refine gc_exit ?_
    refine hK3 _ _ ?_
    clear hK3; try clear K3
    refine gc_seq fun K8 hK8 => ?_
    refine gc_region ?_
    refine gl_op rfl rfl rfl (op_pure hT rfl) ?_
    refine gl_op rfl rfl rfl (op_pure hT rfl) ?_
    refine gl_nil ?_
    refine hK8 _ _ ?_
    clear hK8; try clear K8
    refine gc_ret ?_
    try simp only [x_then_ret, x_block_ret]
    refine gk_ret1 rfl rfl ?_
    have hie : i = l.length := by omega
    subst hie
    rw [List.take_length] at hS
    exact ⟨A', c', rfl, hS⟩
theorem sameList_calls (A B : Option Addr) (n n2 c c2 : Nat) (l : List Nat) (w : World) {ok ok2 : Nat → Prop} (hA : RdE w ok uV A l) (hn : n = l.length) (hB : RdE w ok2 uV B l) (hn2 : n2 = l.length) (hl : l.length ≤ 17592186044416) :
    Calls Tryd.prog 24 ⟨[.slice A n c, .slice B n2 c2]⟩ w fun e w' => e = .returned (.bool true) ∧ Below w.heap.size w w' := by
  subst hn
  subst hn2
  refine gc_enter (N := 26) Tryd.func24 rfl rfl rfl [(0, _), (1, _)] rfl ?_
  have hS := St.start w
  refine gc_seq fun K1 hK1 => ?_
  refine gc_region ?_
  refine gl_op rfl rfl rfl (op_pure hT rfl) ?_
  refine gl_nil ?_
  refine hK1 _ _ ?_
  clear hK1; try clear K1
  refine gc_seq fun K2 hK2 => ?_
  refine gc_seq fun K3 hK3 => ?_
  refine gc_region ?_
  refine gl_op rfl rfl rfl (op_pure hT rfl) ?_
  refine gl_op rfl rfl rfl (op_pure hT rfl) ?_
  refine gl_op rfl rfl rfl (op_pure hT rfl) ?_
  refine gl_op rfl rfl rfl (op_pure hT rfl) ?_
  refine gl_op rfl rfl rfl (op_pure hT rfl) ?_
  refine gl_spell 10 (v := .bool false) rfl (by simp) ?_
  refine gl_nil ?_
  refine hK3 _ _ ?_
  clear hK3; try clear K3
  refine gc_cond_f rfl ?_
  refine gc_skip ?_
  refine hK2 _ _ ?_
  clear hK2; try clear K2
  refine gc_seq fun K4 hK4 => ?_
  refine gc_seq fun K5 hK5 => ?_
  refine gc_region ?_
  refine gl_op rfl rfl rfl (op_pure hT rfl) ?_
  refine gl_nil ?_
  refine hK5 _ _ ?_
  clear hK5; try clear K5
  refine gc_block ?_
  refine gc_loop (fun k a w' => ∃ i : Nat, Fr 26 a [(0, .slice A l.length c), (1, .slice B l.length c2), (5, .int .i64 (i : Nat))] ∧ i ≤ l.length ∧ k = l.length + 1 - i ∧ St w.heap.size w w' []) (l.length + 1) ?_ ?_ ?_
  · intro a ha; exact ⟨0, ha.sub ⟨rfl, rfl, rfl, trivial⟩, by omega, by omega, hS⟩
  · rintro a w ⟨i, _, h1, h2, _⟩; omega
  rintro k a w1 ⟨i, hF, hi, hk, hS⟩
  refine gc_of hF ?_
  clear hF
  refine gc_seq fun K6 hK6 => ?_
  refine gc_seq fun K7 hK7 => ?_
  refine gc_region ?_
  refine gl_op rfl rfl rfl (op_pure hT rfl) ?_
  refine gl_op rfl rfl rfl (op_pure hT rfl) ?_
  refine gl_op rfl rfl rfl (op_pure hT rfl) ?_
  refine gl_op rfl rfl rfl (op_pure hT rfl) ?_
  refine gl_nil ?_
  refine hK7 _ _ ?_
  clear hK7; try clear K7
  refine gc_cond rfl rfl (fun c14 => ?_) (fun c14 => ?_)
  · try simp only [decide_eq_true_eq, decide_eq_false_iff_not, Bool.not_eq_true', Bool.not_eq_false', Int.not_lt, Int.not_le, Nat.not_lt, Nat.not_le, Bool.true_eq, Bool.false_eq, reduceCtorEq] at c14
    refine gc_skip ?_
    refine hK6 _ _ ?_
    clear hK6; try clear K6
    refine gc_seq fun K8 hK8 => ?_
    refine gc_block ?_
    refine gc_seq fun K9 hK9 => ?_
    refine gc_anyS hS (by kernel_rfl) rfl fun nq6 hK => ?_
    have hS := hS.dr nq6
    have hil : i < l.length := by omega
    obtain ⟨u, hu⟩ : ∃ u, l[i]? = some u := ⟨_, List.getElem?_eq_getElem hil⟩
    have hug : l.getD ((i : Int)).toNat 0 = u := by rw [Int.toNat_natCast, List.getD_eq_getElem?_getD, hu]; rfl
    obtain ⟨adA, hAA, hcA⟩ := hA.at 0 (i := (i : Int)) (by omega) (by omega)
    obtain ⟨adB, hAB, hcB⟩ := hB.at 0 (i := (i : Int)) (by omega) (by omega)
    rw [hug] at hcA hcB
    refine ga_take 0 rfl rfl rfl rfl (by kernel_rfl) (fun _ _ _ _ h => h) hK (fun w1 hS => op_pure hT rfl) ?_
    refine ga_take 1 rfl rfl rfl rfl (by kernel_rfl) (fun _ _ _ _ h => h) hK (fun w1 hS => op_pure hT rfl) ?_
    refine ga_take 2 rfl rfl rfl rfl (by kernel_rfl) (fun _ _ _ _ h => h) hK (fun w1 hS => op_indexAddr hT rfl rfl el77.cellsOf.1 el77.cellsOf.2 rfl rfl (by omega) (by omega) hAA) ?_
    refine ga_take 3 rfl rfl rfl rfl (by kernel_rfl) (fun _ _ _ _ h => h) hK (fun w1 hS => op_load hT rfl rfl rfl rfl (cellOf hS.below hcA)) ?_
    refine ga_take 4 rfl rfl rfl rfl (by kernel_rfl) (fun _ _ _ _ h => h) hK (fun w1 hS => op_pure hT rfl) ?_
    refine ga_take 5 rfl rfl rfl rfl (by kernel_rfl) (fun _ _ _ _ h => h) hK (fun w1 hS => op_pure hT rfl) ?_
    refine ga_take 6 rfl rfl rfl rfl (by kernel_rfl) (fun _ _ _ _ h => h) hK (fun w1 hS => op_indexAddr hT rfl rfl el77.cellsOf.1 el77.cellsOf.2 rfl rfl (by omega) (by omega) hAB) ?_
    refine ga_take 7 rfl rfl rfl rfl (by kernel_rfl) (fun _ _ _ _ h => h) hK (fun w1 hS => op_load hT rfl rfl rfl rfl (cellOf hS.below hcB)) ?_
    refine ga_take 8 rfl rfl rfl rfl (by kernel_rfl) (fun _ _ _ _ h => h) hK (fun w1 hS => op_pure hT rfl) ?_
    refine ga_spell 25 (v := .bool false) rfl (by simp) ?_
    refine ga_done (by kernel_rfl) ?_
    refine hK9 _ _ ?_
    clear hK9; try clear K9
    refine gc_cond_f rfl ?_
    refine gc_skip ?_
    refine hK8 _ _ ?_
    clear hK8; try clear K8
    refine gc_region ?_
    refine gl_op rfl rfl rfl (op_pure hT rfl) ?_
    first | refine gl_fit hT rfl rfl rfl rfl (by omega) ?_ | refine gl_op rfl rfl rfl (op_pure hT rfl) ?_
    refine gl_op rfl rfl rfl (op_pure hT rfl) ?_
    refine gl_nil ?_
    intro a ha
    exact ⟨i + 1, ha.sub ⟨rfl, rfl, rfl, trivial⟩, by omega, by omega, hS⟩
  · try simp only [decide_eq_true_eq, decide_eq_false_iff_not, Bool.not_eq_true', Bool.not_eq_false', Int.not_lt, Int.not_le, Nat.not_lt, Nat.not_le, Bool.true_eq, Bool.false_eq, reduceCtorEq] at c14
    refine gc_exit ?_
    refine hK4 _ _ ?_
    clear hK4; try clear K4
    refine gc_seq fun K10 hK10 => ?_
    refine gc_region ?_
    refine gl_op rfl rfl rfl (op_pure hT rfl) ?_
    refine gl_nil ?_
    refine hK10 _ _ ?_
    clear hK10; try clear K10
    refine gc_ret ?_
    try simp only [x_then_ret, x_block_ret]
    refine gk_ret1 rfl rfl ?_
    exact ⟨rfl, hS.below⟩
theorem sameLists_calls (A B : Option Addr) (n n2 c c2 : Nat) (S S2 : List Sv) (ls : List (List Nat)) (w : World) {ok ok2 : Nat → Prop} (hA : LsU w ok A S ls) (hn : n = ls.length) (hB : LsU w ok2 B S2 ls) (hn2 : n2 = ls.length) (hl : ls.length ≤ 5864062014805) (hll : ∀ l ∈ ls, l.length ≤ 17592186044416) :
    Calls Tryd.prog 25 ⟨[.slice A n c, .slice B n2 c2]⟩ w fun e w' => e = .returned (.bool true) ∧ Below w.heap.size w w' := by
  subst hn
  subst hn2
  have hSl := hA.len
  have hSl2 := hB.len
  refine gc_enter (N := 27) Tryd.func25 rfl rfl rfl [(0, _), (1, _)] rfl ?_
  have hS := St.start w
  refine gc_seq fun K1 hK1 => ?_
  refine gc_region ?_
  refine gl_op rfl rfl rfl (op_pure hT rfl) ?_
  refine gl_nil ?_
  refine hK1 _ _ ?_
  clear hK1; try clear K1
  refine gc_seq fun K2 hK2 => ?_
  refine gc_seq fun K3 hK3 => ?_
  refine gc_region ?_
  refine gl_op rfl rfl rfl (op_pure hT rfl) ?_
  refine gl_op rfl rfl rfl (op_pure hT rfl) ?_
  refine gl_op rfl rfl rfl (op_pure hT rfl) ?_
  refine gl_op rfl rfl rfl (op_pure hT rfl) ?_
  refine gl_op rfl rfl rfl (op_pure hT rfl) ?_
  refine gl_spell 10 (v := .bool false) rfl (by simp) ?_
  refine gl_nil ?_
  refine hK3 _ _ ?_
  clear hK3; try clear K3
  refine gc_cond_f rfl ?_
  refine gc_skip ?_
  refine hK2 _ _ ?_
  clear hK2; try clear K2
  refine gc_seq fun K4 hK4 => ?_
  refine gc_seq fun K5 hK5 => ?_
  refine gc_region ?_
  refine gl_op rfl rfl rfl (op_pure hT rfl) ?_
  refine gl_nil ?_
  refine hK5 _ _ ?_
  clear hK5; try clear K5
  refine gc_block ?_
  refine gc_loop (fun k a w' => ∃ i : Nat, Fr 27 a [(0, .slice A ls.length c), (1, .slice B ls.length c2), (5, .int .i64 (i : Nat))] ∧ i ≤ ls.length ∧ k = ls.length + 1 - i ∧ St w.heap.size w w' []) (ls.length + 1) ?_ ?_ ?_
  · intro a ha; exact ⟨0, ha.sub ⟨rfl, rfl, rfl, trivial⟩, by omega, by omega, hS⟩
  · rintro a w ⟨i, _, h1, h2, _⟩; omega
  rintro k a w1 ⟨i, hF, hi, hk, hS⟩
  refine gc_of hF ?_
  clear hF
  refine gc_seq fun K6 hK6 => ?_
  refine gc_seq fun K7 hK7 => ?_
  refine gc_region ?_
  refine gl_op rfl rfl rfl (op_pure hT rfl) ?_
  refine gl_op rfl rfl rfl (op_pure hT rfl) ?_
  refine gl_op rfl rfl rfl (op_pure hT rfl) ?_
  refine gl_op rfl rfl rfl (op_pure hT rfl) ?_
  refine gl_nil ?_
  refine hK7 _ _ ?_
  clear hK7; try clear K7
  refine gc_cond rfl rfl (fun c14 => ?_) (fun c14 => ?_)
  · try simp only [decide_eq_true_eq, decide_eq_false_iff_not, Bool.not_eq_true', Bool.not_eq_false', Int.not_lt, Int.not_le, Nat.not_lt, Nat.not_le, Bool.true_eq, Bool.false_eq, reduceCtorEq] at c14
    refine gc_skip ?_
    refine hK6 _ _ ?_
    clear hK6; try clear K6
    refine gc_seq fun K8 hK8 => ?_
    refine gc_block ?_
    refine gc_seq fun K9 hK9 => ?_
    refine gc_anyS hS (by kernel_rfl) rfl fun nq6 hK => ?_
    have hS := hS.dr nq6
    have hil : i < ls.length := by omega
    obtain ⟨l, hu⟩ : ∃ l, ls[i]? = some l := ⟨_, List.getElem?_eq_getElem hil⟩
    have hlm := hll l (List.mem_of_getElem? hu)
    obtain ⟨x, hx⟩ : ∃ x, S[i]? = some x := ⟨_, List.getElem?_eq_getElem (by omega)⟩
    obtain ⟨y, hy⟩ : ∃ y, S2[i]? = some y := ⟨_, List.getElem?_eq_getElem (by omega)⟩
    have hxg : S.getD ((i : Int)).toNat (none, 0, 0) = x := by rw [Int.toNat_natCast, List.getD_eq_getElem?_getD, hx]; rfl
    have hyg : S2.getD ((i : Int)).toNat (none, 0, 0) = y := by rw [Int.toNat_natCast, List.getD_eq_getElem?_getD, hy]; rfl
    obtain ⟨adA, hAA, hcA⟩ := hA.rS.at (none, 0, 0) (i := (i : Int)) (by omega) (by omega)
    obtain ⟨adB, hAB, hcB⟩ := hB.rS.at (none, 0, 0) (i := (i : Int)) (by omega) (by omega)
    rw [hxg] at hcA
    rw [hyg] at hcB
    have hrx := hA.rd i x l hx hu
    have hry := hB.rd i y l hy hu
    refine ga_take 0 rfl rfl rfl rfl (by kernel_rfl) (fun _ _ _ _ h => h) hK (fun w1 hS => op_pure hT rfl) ?_
    refine ga_take 1 rfl rfl rfl rfl (by kernel_rfl) (fun _ _ _ _ h => h) hK (fun w1 hS => op_pure hT rfl) ?_
    refine ga_take 2 rfl rfl rfl rfl (by kernel_rfl) (fun _ _ _ _ h => h) hK (fun w1 hS => op_indexAddr hT rfl rfl el26.cellsOf.1 el26.cellsOf.2 rfl rfl (by omega) (by omega) hAA) ?_
    refine ga_take 3 rfl rfl rfl rfl (by kernel_rfl) (fun _ _ _ _ h => h) hK (fun w1 hS => op_load hT rfl rfl rfl rfl (cellOf hS.below hcA)) ?_
    refine ga_take 4 rfl rfl rfl rfl (by kernel_rfl) (fun _ _ _ _ h => h) hK (fun w1 hS => op_pure hT rfl) ?_
    refine ga_take 5 rfl rfl rfl rfl (by kernel_rfl) (fun _ _ _ _ h => h) hK (fun w1 hS => op_pure hT rfl) ?_
    refine ga_take 6 rfl rfl rfl rfl (by kernel_rfl) (fun _ _ _ _ h => h) hK (fun w1 hS => op_indexAddr hT rfl rfl el26.cellsOf.1 el26.cellsOf.2 rfl rfl (by omega) (by omega) hAB) ?_
    refine ga_take 7 rfl rfl rfl rfl (by kernel_rfl) (fun _ _ _ _ h => h) hK (fun w1 hS => op_load hT rfl rfl rfl rfl (cellOf hS.below hcB)) ?_
    refine ga_one 8 (by kernel_rfl) rfl ?_
    refine gl_callf rfl rfl rfl rfl Tryd.func24 rfl rfl rfl (sameList_calls _ _ _ _ _ _ l _ (hrx.1.old hS) hrx.2.1 (hry.1.old hS) hry.2.1 hlm) ?_
    rintro _ w25 ⟨rfl, hb25⟩
    refine ⟨_, rfl, ?_⟩
    have hS := hS.grown hb25
    refine gl_nil ?_
    refine ga_next (hS.pre 0) fun hK => ?_
    refine ga_take 9 rfl rfl rfl rfl (by kernel_rfl) (fun _ _ _ _ h => h) hK (fun w1 hS => op_pure hT rfl) ?_
    refine ga_done (by kernel_rfl) ?_
    refine hK9 _ _ ?_
    clear hK9; try clear K9
    refine gc_cond_f rfl ?_
    refine gc_skip ?_
    refine hK8 _ _ ?_
    clear hK8; try clear K8
    refine gc_region ?_
    refine gl_op rfl rfl rfl (op_pure hT rfl) ?_
    first | refine gl_fit hT rfl rfl rfl rfl (by omega) ?_ | refine gl_op rfl rfl rfl (op_pure hT rfl) ?_
    refine gl_op rfl rfl rfl (op_pure hT rfl) ?_
    refine gl_nil ?_
    intro a ha
    exact ⟨i + 1, ha.sub ⟨rfl, rfl, rfl, trivial⟩, by omega, by omega, hS⟩
  · try simp only [decide_eq_true_eq, decide_eq_false_iff_not, Bool.not_eq_true', Bool.not_eq_false', Int.not_lt, Int.not_le, Nat.not_lt, Nat.not_le, Bool.true_eq, Bool.false_eq, reduceCtorEq] at c14
    refine gc_exit ?_
    refine hK4 _ _ ?_
    clear hK4; try clear K4
    refine gc_seq fun K10 hK10 => ?_
    refine gc_region ?_
    refine gl_op rfl rfl rfl (op_pure hT rfl) ?_
    refine gl_nil ?_
    refine hK10 _ _ ?_
    clear hK10; try clear K10
    refine gc_ret ?_
    try simp only [x_then_ret, x_block_ret]
    refine gk_ret1 rfl rfl ?_
    exact ⟨rfl, hS.below⟩
end Go.Proofs.YtnomlloaahoceaaDoor


/- Contracts: several lists laid with marks behind, their bits. No condition. -/
namespace Go.Proofs.YtnomlloaahoceaaDoor
open Go.RowKit
set_option linter.unusedVariables false
set_option linter.unusedSimpArgs false
@[reducible] def m31 : Value := fV 13852790978814935040
structure LdM (w : World) (ok : Nat → Prop) (A : Option Addr) (c : Nat) (S : List Sv) (ls : List (List Nat)) (mk : Sv) : Prop where
  rS : Rd w ok A (ls.length + 1) 1 (S.map svV ++ [svV mk])
  cp : ls.length + 1 ≤ c
  len : S.length = ls.length
  rd : ∀ (i : Nat) x l, S[i]? = some x → ls[i]? = some l → Rd w ok x.1 (l.length + 9) 1 (laidC l) ∧ x.2.1 = l.length ∧ l.length + 9 ≤ x.2.2
  rm : Rd w ok mk.1 1 1 [m31]
  nm : mk.2.1 = 1
theorem LdM.keep {w w0 : World} {B : Nat} {L : List It} (hS : St B w0 w L) {i : Nat} {ok : Nat → Prop} {wk : World} (hi : L[i]? = some (.keep ok wk)) {A : Option Addr} {c : Nat} {S : List Sv} {ls : List (List Nat)} {mk : Sv} (h : LdM wk ok A c S ls mk) : LdM w ok A c S ls mk :=
  ⟨hS.keepRd hi h.rS, h.cp, h.len, fun j x l h1 h2 => ⟨hS.keepRd hi (h.rd j x l h1 h2).1, (h.rd j x l h1 h2).2⟩, hS.keepRd hi h.rm, h.nm⟩
theorem LdM.weaken {w : World} {ok ok' : Nat → Prop} {A : Option Addr} {c : Nat} {S : List Sv} {ls : List (List Nat)} {mk : Sv} (h : LdM w ok A c S ls mk) (hok : ∀ b, ok b → ok' b) : LdM w ok' A c S ls mk :=
  ⟨h.rS.weaken hok, h.cp, h.len, fun j x l h1 h2 => ⟨(h.rd j x l h1 h2).1.weaken hok, (h.rd j x l h1 h2).2⟩, h.rm.weaken hok, h.nm⟩
theorem LdM.lsM {w : World} {ok : Nat → Prop} {A : Option Addr} {c : Nat} {S : List Sv} {ls : List (List Nat)} {mk : Sv} (h : LdM w ok A c S ls mk) (hl : ∀ l ∈ ls, l.length ≤ 17592186044416 ∧ ∀ u ∈ l, u < 18446744073709551616) : LsM w ok A S ls := by
  refine ⟨rdE_of (h.rS.pre (by rw [List.length_map, h.len]) (by omega)) h.len, h.len, fun i x l h1 h2 => ?_⟩
  have := h.rd i x l h1 h2
  have hb := hl l (List.mem_of_getElem? h2)
  exact ⟨rdE_of (this.1.pre (cs := l.map fV) (m := l.length) (by rw [List.length_map]) (by omega)) rfl, this.2.1, by omega, hb.2⟩
theorem LsU.keep {w w0 : World} {B : Nat} {L : List It} (hS : St B w0 w L) {i : Nat} {ok : Nat → Prop} {wk : World} (hi : L[i]? = some (.keep ok wk)) {A : Option Addr} {S : List Sv} {ls : List (List Nat)} (h : LsU wk ok A S ls) : LsU w ok A S ls :=
  ⟨hS.keepRd hi h.rS, h.len, fun j x l h1 h2 => ⟨hS.keepRd hi (h.rd j x l h1 h2).1, (h.rd j x l h1 h2).2⟩⟩
theorem LsU.weaken {w : World} {ok ok' : Nat → Prop} {A : Option Addr} {S : List Sv} {ls : List (List Nat)} (h : LsU w ok A S ls) (hok : ∀ b, ok b → ok' b) : LsU w ok' A S ls :=
  ⟨Rd.weaken h.rS hok, h.len, fun j x l h1 h2 => ⟨Rd.weaken (h.rd j x l h1 h2).1 hok, (h.rd j x l h1 h2).2⟩⟩
def Bcs (w : World) (ok : Nat → Prop) (S : List Sv) (ls : List (List Nat)) : Prop := S.length = ls.length ∧ ∀ (i : Nat) x l, S[i]? = some x → ls[i]? = some l → RdE w ok uV x.1 l ∧ x.2.1 = l.length ∧ l.length ≤ 17592186044416 ∧ ∀ u ∈ l, u < 18446744073709551616
theorem Bcs.lift {w w' : World} {ok ok' : Nat → Prop} {S : List Sv} {ls : List (List Nat)} (h : Bcs w ok S ls) (hl : ∀ {A : Option Addr} {n : Nat} {cs : List Value}, Rd w ok A n 1 cs → Rd w' ok' A n 1 cs) : Bcs w' ok' S ls := ⟨h.1, fun i x l h1 h2 => ⟨hl (h.2 i x l h1 h2).1, (h.2 i x l h1 h2).2⟩⟩
def Pcs (w : World) (ok : Nat → Prop) (S : List Sv) (ls : List (List Nat)) : Prop := S.length = ls.length ∧ ∀ (i : Nat) x l, S[i]? = some x → ls[i]? = some l → Rd w ok x.1 (l.length + 9) 1 (laidC l) ∧ x.2.1 = l.length ∧ l.length + 9 ≤ x.2.2
theorem Pcs.lift {w w' : World} {ok ok' : Nat → Prop} {S : List Sv} {ls : List (List Nat)} (h : Pcs w ok S ls) (hl : ∀ {A : Option Addr} {n : Nat} {cs : List Value}, Rd w ok A n 1 cs → Rd w' ok' A n 1 cs) : Pcs w' ok' S ls := ⟨h.1, fun i x l h1 h2 => ⟨hl (h.2 i x l h1 h2).1, (h.2 i x l h1 h2).2⟩⟩
theorem snoc_get {α : Type} {l : List α} {a x : α} {i : Nat} (h : (l ++ [a])[i]? = some x) : (l[i]? = some x ∧ i < l.length) ∨ (i = l.length ∧ x = a) := by
  rcases Nat.lt_or_ge i l.length with hi | hi
  · rw [List.getElem?_append_left hi] at h; exact .inl ⟨h, hi⟩
  · rw [List.getElem?_append_right hi] at h
    have h1 : i - l.length = 0 := by
      rcases Nat.eq_zero_or_pos (i - l.length) with h1 | h1
      · exact h1
      · rw [List.getElem?_eq_none (by simp; omega)] at h; cases h
    rw [h1] at h
    simp at h
    exact .inr ⟨by omega, h.symm⟩
theorem Pcs.snoc {w : World} {ok : Nat → Prop} {S : List Sv} {ls : List (List Nat)} {x : Sv} {l : List Nat} (h : Pcs w ok S ls) (h1 : Rd w ok x.1 (l.length + 9) 1 (laidC l)) (h2 : x.2.1 = l.length) (h3 : l.length + 9 ≤ x.2.2) : Pcs w ok (S ++ [x]) (ls ++ [l]) := by
  refine ⟨by simp [h.1], fun i y m hy hm => ?_⟩
  have hl := h.1
  rcases snoc_get hy with ⟨hy, hi⟩ | ⟨hi, rfl⟩ <;> rcases snoc_get hm with ⟨hm, hi2⟩ | ⟨hi2, rfl⟩
  · exact h.2 i y m hy hm
  · omega
  · omega
  · exact ⟨h1, h2, h3⟩
theorem Bcs.snoc {w : World} {ok : Nat → Prop} {S : List Sv} {ls : List (List Nat)} {x : Sv} {l : List Nat} (h : Bcs w ok S ls) (h1 : RdE w ok uV x.1 l) (h2 : x.2.1 = l.length) (h3 : l.length ≤ 17592186044416) (h4 : ∀ u ∈ l, u < 18446744073709551616) : Bcs w ok (S ++ [x]) (ls ++ [l]) := by
  refine ⟨by simp [h.1], fun i y m hy hm => ?_⟩
  have hl := h.1
  rcases snoc_get hy with ⟨hy, hi⟩ | ⟨hi, rfl⟩ <;> rcases snoc_get hm with ⟨hm, hi2⟩ | ⟨hi2, rfl⟩
  · exact h.2 i y m hy hm
  · omega
  · omega
  · exact ⟨h1, h2, h3, h4⟩
theorem bitsOf_calls (A : Option Addr) (n c : Nat) (S : List Sv) (ls : List (List Nat)) (w : World) {ok : Nat → Prop} (hm : LsM w ok A S ls) (hn : n = ls.length) (hl : ls.length ≤ 5864062014805) (hll : ∀ l ∈ ls, l.length ≤ 17592186044416) :
    Calls Tryd.prog 15 ⟨[.slice A n c]⟩ w fun e w' => ∃ AL cL S' K, e = .returned (.slice AL ls.length cL) ∧ St w.heap.size w w' [.keep K w'] ∧ LsU w' K AL S' ls := by
  subst hn
  have hSl := hm.len
  refine gc_enter (N := 20) Tryd.func15 rfl rfl rfl [(0, _)] rfl ?_
  have hS := St.start w
  refine gc_seq fun K1 hK1 => ?_
  refine gc_region ?_
  refine gl_op rfl rfl rfl (op_pure hT rfl) ?_
  refine gl_nil ?_
  refine hK1 _ _ ?_
  clear hK1; try clear K1
  refine gc_seq fun K2 hK2 => ?_
  refine gc_region ?_
  refine gl_op rfl rfl rfl (op_pure hT rfl) ?_
  refine gl_nil ?_
  refine hK2 _ _ ?_
  clear hK2; try clear K2
  refine gc_seq fun K3 hK3 => ?_
  refine gc_seq fun K4 hK4 => ?_
  refine gc_region ?_
  refine gl_op rfl rfl rfl (op_pure hT rfl) ?_
  refine gl_nil ?_
  refine hK4 _ _ ?_
  clear hK4; try clear K4
  refine gc_block ?_
  have hS := (hS.nil 26 1).keep0
  refine gc_loop (fun k a w' => ∃ (i : Nat) (S' : List Sv) (AL : Option Addr) (cL : Nat) (ok' : Nat → Prop) (wk : World), Fr 20 a [(0, .slice A ls.length c), (3, .slice AL i cL), (4, .int .i64 (i : Nat))] ∧ i ≤ ls.length ∧ k = ls.length + 1 - i ∧ Bcs wk ok' S' (ls.take i) ∧
    St w.heap.size w w' [.row AL cL 26 1 i (S'.map svV), .keep ok' wk]) (ls.length + 1) ?_ ?_ ?_
  · intro a ha; exact ⟨0, [], none, 0, _, _, ha.sub ⟨rfl, rfl, rfl, trivial⟩, by omega, by omega, ⟨rfl, fun i x l h => by simp at h⟩, hS⟩
  · rintro a w ⟨i, _, _, _, _, _, _, h1, h2, _⟩; omega
  rintro k a w1 ⟨i, S', AL, cL, ok', wk, hF, hi, hk, hP, hS⟩
  refine gc_of hF ?_
  clear hF
  refine gc_seq fun K5 hK5 => ?_
  refine gc_seq fun K6 hK6 => ?_
  refine gc_region ?_
  refine gl_op rfl rfl rfl (op_pure hT rfl) ?_
  refine gl_op rfl rfl rfl (op_pure hT rfl) ?_
  refine gl_op rfl rfl rfl (op_pure hT rfl) ?_
  refine gl_op rfl rfl rfl (op_pure hT rfl) ?_
  refine gl_nil ?_
  refine hK6 _ _ ?_
  clear hK6; try clear K6
  refine gc_cond rfl rfl (fun c8 => ?_) (fun c8 => ?_)
  · try simp only [decide_eq_true_eq, decide_eq_false_iff_not, Bool.not_eq_true', Bool.not_eq_false', Int.not_lt, Int.not_le, Nat.not_lt, Nat.not_le, Bool.true_eq, Bool.false_eq, reduceCtorEq] at c8
    refine gc_skip ?_
    refine hK5 _ _ ?_
    clear hK5; try clear K5
    refine gc_seq fun K7 hK7 => ?_
    refine gc_block ?_
    refine gc_region ?_
    refine gl_op rfl rfl rfl (op_pure hT rfl) ?_
    refine gl_op rfl rfl rfl (op_pure hT rfl) ?_
    refine gl_op rfl rfl rfl (op_pure hT rfl) ?_
    have hil : i < ls.length := by omega
    obtain ⟨l, hu⟩ : ∃ l, ls[i]? = some l := ⟨_, List.getElem?_eq_getElem hil⟩
    have hlm := hll l (List.mem_of_getElem? hu)
    obtain ⟨x, hx⟩ : ∃ x, S[i]? = some x := ⟨_, List.getElem?_eq_getElem (by omega)⟩
    have hr := hm.rd i x l hx hu
    have htake : ls.take (i + 1) = ls.take i ++ [l] := by rw [List.take_add_one, hu]; rfl
    obtain ⟨ad, hA, hc⟩ := (hm.rS.old hS).at (none, 0, 0) (i := (i : Int)) (by omega) (by omega)
    have hug : S.getD ((i : Int)).toNat (none, 0, 0) = x := by rw [Int.toNat_natCast, List.getD_eq_getElem?_getD, hx]; rfl
    rw [hug] at hc
    refine gl_op rfl rfl rfl (op_indexAddr hT rfl rfl el22.cellsOf.1 el22.cellsOf.2 rfl rfl (by omega) (by omega) hA) ?_
    refine gl_op rfl rfl rfl (op_load hT rfl rfl rfl rfl hc) ?_
    refine gl_callf rfl rfl rfl rfl Tryd.func14 rfl rfl rfl (bits_calls _ _ _ l _ (hr.1.old hS) hr.2.1 hlm) ?_
    rintro _ w16 ⟨A16, c16, rfl, h16⟩
    refine ⟨_, rfl, ?_⟩
    have hS := hS.more h16
    refine gl_lit hT hS el26 rfl rfl rfl rfl rfl rfl rfl rfl rfl fun g17 w17 hS => ?_
    refine gl_append 0 hT hS el26 (hS.rd (i := 3) rfl) (rfl) rfl rfl rfl rfl rfl rfl rfl rfl (by first | omega | (simp; omega)) (by first | omega | (simp; omega)) fun A18 c18 w18 hS => ?_
    have hS := hS.erase 3
    refine gl_op rfl rfl rfl (op_pure hT rfl) ?_
    refine gl_nil ?_
    refine hK7 _ _ ?_
    clear hK7; try clear K7
    refine gc_region ?_
    refine gl_op rfl rfl rfl (op_pure hT rfl) ?_
    first | refine gl_fit hT rfl rfl rfl rfl (by omega) ?_ | refine gl_op rfl rfl rfl (op_pure hT rfl) ?_
    refine gl_op rfl rfl rfl (op_pure hT rfl) ?_
    refine gl_nil ?_
    intro a ha
    have hS : St w.heap.size w _ ([.row A18 c18 26 1 (i + 1) (S'.map svV ++ [svV (A16, l.length, c16)])] ++ [.keep ok' wk, .row A16 c16 77 1 l.length (l.map uV)]) := hS
    have hP1 := hP.lift (ok' := fun b => ∃ it ∈ [It.keep ok' wk, .row A16 c16 77 1 l.length (l.map uV)], it.fp b) fun h => (hS.keepRd (i := 1) rfl h).weaken (keep_mem (x := .keep ok' wk) (.head _))
    have hP2 := hP1.snoc (x := (A16, l.length, c16)) (l := l) (hS.rowRd (i := 2) rfl (keep_mem (.tail _ (.head _)))) rfl hr.2.2.1 hr.2.2.2
    rw [← htake] at hP2
    refine ⟨i + 1, S' ++ [(A16, l.length, c16)], A18, c18, _, _, ha.sub ⟨rfl, rfl, rfl, trivial⟩, by omega, by omega, hP2, ?_⟩
    rw [List.map_append]
    exact hS.keepRest
  · try simp only [decide_eq_true_eq, decide_eq_false_iff_not, Bool.not_eq_true', Bool.not_eq_false', Int.not_lt, Int.not_le, Nat.not_lt, Nat.not_le, Bool.true_eq, Bool.false_eq, reduceCtorEq] at c8
    refine gc_exit ?_
    refine hK3 _ _ ?_
    clear hK3; try clear K3
    refine gc_seq fun K8 hK8 => ?_
    refine gc_region ?_
    refine gl_op rfl rfl rfl (op_pure hT rfl) ?_
    refine gl_op rfl rfl rfl (op_pure hT rfl) ?_
    refine gl_nil ?_
    refine hK8 _ _ ?_
    clear hK8; try clear K8
    refine gc_ret ?_
    try simp only [x_then_ret, x_block_ret]
    refine gk_ret1 rfl rfl ?_
    have hie : i = ls.length := by omega
    subst hie
    rw [List.take_length] at hP
    have hS : St w.heap.size w _ ([] ++ [It.row AL cL 26 1 ls.length (S'.map svV), .keep ok' wk]) := hS
    have hP1 := hP.lift (ok' := fun b => ∃ it ∈ [It.row AL cL 26 1 ls.length (S'.map svV), .keep ok' wk], it.fp b) fun h => (hS.keepRd (i := 1) rfl h).weaken (keep_mem (x := .keep ok' wk) (.tail _ (.head _)))
    exact ⟨AL, cL, S', _, rfl, hS.keepRest, ⟨rdE_of (hS.rowRd (i := 0) rfl (keep_mem (.head _))) hP.1, hP.1, hP1.2⟩⟩
end Go.Proofs.YtnomlloaahoceaaDoor


/- Contracts of package code: a reader's head, its numbers, its tail. No condition. -/
namespace Go.Proofs.YtnomlloaahoceaaDoor
open Go.RowKit
set_option linter.unusedVariables false
set_option linter.unusedSimpArgs false
theorem rU_ok {l : List UInt8} {at_ v a : Int} (h : rU l at_ = .ok (v, a)) : 0 ≤ at_ ∧ 0 ≤ v ∧ v < 9223372036854775808 ∧ at_ < a ∧ a ≤ l.length := by
  unfold rU at h
  split at h
  · rename_i h0
    have := readUV_ok h0
    injection h with h
    obtain ⟨rfl, rfl⟩ := Prod.mk.inj h
    exact this
  · cases h
theorem rF_ok {l : List UInt8} {at_ a : Int} {u : Nat} (h : rF l at_ = .ok (u, a)) : 0 ≤ at_ ∧ a = at_ + 8 ∧ a ≤ l.length ∧ u < 18446744073709551616 := by
  unfold rF at h
  split at h
  · rename_i h0
    injection h with h
    obtain ⟨rfl, rfl⟩ := Prod.mk.inj h
    unfold readFloatV at h0 ⊢
    by_cases h1 : at_ < 0 ∨ (l.length : Int) < at_
    · rw [if_pos h1] at h0; exact absurd h0 (by decide)
    rw [if_neg h1] at h0 ⊢
    by_cases h2 : (l.length : Int) - at_ < 8
    · rw [if_pos h2] at h0; exact absurd h0 (by decide)
    rw [if_neg h2] at h0 ⊢
    by_cases h3 : numB (vLE l at_.toNat 8) = false
    · rw [if_pos h3] at h0; exact absurd h0 (by decide)
    rw [if_neg h3]
    have := vLE_lt l at_.toNat 8
    rw [show (256 : Nat) ^ 8 = 18446744073709551616 by decide] at this
    exact ⟨by omega, rfl, by simp only; omega, this⟩
  · cases h
theorem rFs_ok {l : List UInt8} : ∀ {n : Nat} {at_ a : Int} {us : List Nat}, rFs l n at_ = .ok (us, a) → us.length = n ∧ (0 ≤ at_ ∧ at_ ≤ l.length → 0 ≤ a ∧ a ≤ l.length) ∧ (∀ u ∈ us, u < 18446744073709551616)
  | 0, at_, a, us, h => by
    unfold rFs at h
    injection h with h
    obtain ⟨rfl, rfl⟩ := Prod.mk.inj h
    exact ⟨rfl, id, fun u hu => by cases hu⟩
  | n + 1, at_, a, us, h => by
    unfold rFs at h
    cases h1 : rF l at_ with
    | error x => rw [h1] at h; cases h
    | ok p =>
      obtain ⟨u, b⟩ := p
      rw [h1] at h
      simp only at h
      cases h2 : rFs l n b with
      | error x => rw [h2] at h; cases h
      | ok q =>
        obtain ⟨vs, d⟩ := q
        rw [h2] at h
        injection h with h
        obtain ⟨rfl, rfl⟩ := Prod.mk.inj h
        have k1 := rF_ok h1
        obtain ⟨k2, k3, k4⟩ := rFs_ok h2
        refine ⟨by simp [k2], fun _ => k3 ⟨by omega, by omega⟩, fun x hx => ?_⟩
        rcases List.mem_cons.1 hx with rfl | hx
        · exact k1.2.2.2
        · exact k4 x hx
theorem rFs_snoc {l : List UInt8} : ∀ {n : Nat} {at_ a : Int} {us : List Nat}, rFs l n at_ = .ok (us, a) → ∀ k, rFs l (n + k) at_ = match rFs l k a with | .error x => .error x | .ok (vs, b) => .ok (us ++ vs, b)
  | 0, at_, a, us, h, k => by
    unfold rFs at h
    injection h with h
    obtain ⟨rfl, rfl⟩ := Prod.mk.inj h
    rw [Nat.zero_add]
    cases rFs l k at_ with
    | error x => rfl
    | ok q => rfl
  | n + 1, at_, a, us, h, k => by
    unfold rFs at h
    rw [show n + 1 + k = (n + k) + 1 by omega]
    show (match rF l at_ with | .error x => Except.error x | .ok (u, a) => match rFs l (n + k) a with | .error x => .error x | .ok (us, b) => .ok (u :: us, b)) = _
    cases h1 : rF l at_ with
    | error x => rw [h1] at h; cases h
    | ok p =>
      obtain ⟨u, b⟩ := p
      rw [h1] at h
      simp only at h ⊢
      cases h2 : rFs l n b with
      | error x => rw [h2] at h; cases h
      | ok q =>
        obtain ⟨vs, d⟩ := q
        rw [h2] at h
        injection h with h
        obtain ⟨rfl, rfl⟩ := Prod.mk.inj h
        rw [rFs_snoc h2 k]
        cases rFs l k d with
        | error x => rfl
        | ok r => rfl
theorem St.front2 {B : Nat} {w0 w : World} {x y : It} {L : List It} (h : St B w0 w (x :: L ++ [y])) : St B w0 w (x :: y :: L) := h.moveIn 1
set_option maxRecDepth 100000 in
theorem cFloats_calls {B : Nat} {w0 : World} (g : Nat) (bt : TypeId) (A : Option Addr) (n c : Nat) (l : List UInt8) (at_ : Int) (cs : List Value) (L : List It) (w : World) (m : Nat) (hS0 : St B w0 w (.blk g bt (cuC A n c at_ cs) :: L)) {ok : Nat → Prop} (hr : Rdb B w0 ok A l) (hn : n = l.length) (hb : l.length ≤ 1048576) (hat : 0 ≤ at_ ∧ at_ ≤ l.length) (hm : m ≤ 1048576) :
    Calls Tryd.prog 59 ⟨[.pointer (some ⟨g, 0, none⟩), .int .i64 (m : Nat)]⟩ w fun en w' => (∃ x y a, rFs l m at_ = .error (x, y) ∧ en = .panicked (pn x y) ∧ St B w0 w' (.blk g bt (cuC A n c a cs) :: L)) ∨
      (∃ us a A' c', rFs l m at_ = .ok (us, a) ∧ en = .returned (.slice A' m c') ∧ St B w0 w' (.blk g bt (cuC A n c a cs) :: .row A' c' 62 1 m (us.map fV) :: L)) := by
  subst hn
  refine gc_enter (N := 16) Tryd.func59 rfl rfl rfl [(0, _), (1, _)] rfl ?_
  have hS := St.start w
  have hS := hS0
  refine gc_seq fun K1 hK1 => ?_
  refine gc_region ?_
  refine gl_op rfl rfl rfl (op_pure hT rfl) ?_
  refine gl_nil ?_
  refine hK1 _ _ ?_
  clear hK1; try clear K1
  refine gc_seq fun K2 hK2 => ?_
  refine gc_region ?_
  refine gl_op rfl rfl rfl (op_pure hT rfl) ?_
  refine gl_nil ?_
  refine hK2 _ _ ?_
  clear hK2; try clear K2
  refine gc_seq fun K3 hK3 => ?_
  refine gc_seq fun K4 hK4 => ?_
  refine gc_region ?_
  refine gl_op rfl rfl rfl (op_pure hT rfl) ?_
  refine gl_op rfl rfl rfl (op_pure hT rfl) ?_
  refine gl_nil ?_
  refine hK4 _ _ ?_
  clear hK4; try clear K4
  refine gc_block ?_
  have hS := (hS.nil 62 1).front2
  refine gc_loop (fun kk a' w' => ∃ (i : Nat) (us : List Nat) (a : Int) (A' : Option Addr) (c' : Nat), Fr 16 a' [(0, .pointer (some ⟨g, 0, none⟩)), (5, .slice A' i c'), (6, .int .i64 (m : Nat)), (7, .int .i64 (i : Nat))] ∧ i ≤ m ∧ kk = m + 1 - i ∧ rFs l i at_ = .ok (us, a) ∧
    St B w0 w' (.blk g bt (cuC A l.length c a cs) :: .row A' c' 62 1 i (us.map fV) :: L)) (m + 1) ?_ ?_ ?_
  · intro a' ha; exact ⟨0, [], at_, none, 0, ha.sub ⟨rfl, rfl, rfl, rfl, trivial⟩, by omega, by omega, rfl, hS⟩
  · rintro a' w' ⟨i, _, _, _, _, _, h1, h2, _⟩; omega
  clear hS
  rintro kk a' w1 ⟨i, us, a, A', c', hF, hi, hk, hus, hS⟩
  refine gc_of hF ?_
  clear hF
  obtain ⟨hul, hua, huf⟩ := rFs_ok hus
  have hab := hua hat
  refine gc_seq fun K5 hK5 => ?_
  refine gc_region ?_
  refine gl_op rfl rfl rfl (op_pure hT rfl) ?_
  refine gl_nil ?_
  refine hK5 _ _ ?_
  clear hK5; try clear K5
  refine gc_seq fun K6 hK6 => ?_
  refine gc_cond rfl rfl (fun c8 => ?_) (fun c8 => ?_)
  · try simp only [decide_eq_true_eq, decide_eq_false_iff_not, Bool.not_eq_true', Bool.not_eq_false', Int.not_lt, Int.not_le, Nat.not_lt, Nat.not_le, Bool.true_eq, Bool.false_eq, reduceCtorEq] at c8
    refine gc_skip ?_
    refine hK6 _ _ ?_
    clear hK6; try clear K6
    refine gc_seq fun K7 hK7 => ?_
    refine gc_block ?_
    refine gc_region ?_
    refine gl_op rfl rfl rfl (op_pure hT rfl) ?_
    refine gl_op rfl rfl rfl (op_pure hT rfl) ?_
    have hsn := rFs_snoc hus
    refine gl_callP rfl rfl rfl rfl Tryd.func76 rfl rfl rfl (cFloat_calls g bt A l.length c l a cs _ _ hS hr rfl hb (by omega)) ?_
    rintro _ w11 (⟨x, y, hx, rfl, hS⟩ | ⟨v, b, hx, rfl, hS⟩)
    · refine .inr ⟨_, rfl, ?_⟩
      try simp only [x_then_panic, x_block_panic]
      refine gk_panic ?_
      refine .inl ⟨x, y, a, ?_, rfl, hS.erase 1⟩
      have h1 := hsn (1 + (m - (i + 1)))
      rw [show i + (1 + (m - (i + 1))) = m by omega] at h1
      rw [h1, Nat.add_comm 1]
      unfold rFs
      rw [hx]
    refine .inl ⟨_, rfl, ?_⟩
    have hs1 : rFs l (i + 1) at_ = .ok (us ++ [v], b) := by
      rw [hsn 1]
      unfold rFs
      rw [hx]
      rfl
    refine gl_lit hT hS el62 rfl rfl rfl rfl rfl rfl rfl rfl rfl fun g12 w12 hS => ?_
    have hS := hS.moveIn 2
    refine gl_append 1 hT hS el62 (hS.rd (i := 2) rfl) (rfl) rfl rfl rfl rfl rfl rfl rfl rfl (by first | omega | (simp; omega)) (by first | omega | (simp; omega)) fun A13 c13 w13 hS => ?_
    have hS := hS.erase 2
    refine gl_op rfl rfl rfl (op_pure hT rfl) ?_
    refine gl_nil ?_
    refine hK7 _ _ ?_
    clear hK7; try clear K7
    refine gc_region ?_
    first | refine gl_fit hT rfl rfl rfl rfl (by omega) ?_ | refine gl_op rfl rfl rfl (op_pure hT rfl) ?_
    refine gl_op rfl rfl rfl (op_pure hT rfl) ?_
    refine gl_nil ?_
    intro a' ha
    refine ⟨i + 1, us ++ [v], b, A13, c13, ha.sub ⟨rfl, rfl, rfl, rfl, trivial⟩, by omega, by omega, hs1, ?_⟩
    rw [List.map_append]
    exact hS
  · try simp only [decide_eq_true_eq, decide_eq_false_iff_not, Bool.not_eq_true', Bool.not_eq_false', Int.not_lt, Int.not_le, Nat.not_lt, Nat.not_le, Bool.true_eq, Bool.false_eq, reduceCtorEq] at c8
    refine gc_exit ?_
    refine hK3 _ _ ?_
    clear hK3; try clear K3
    refine gc_seq fun K8 hK8 => ?_
    refine gc_region ?_
    refine gl_op rfl rfl rfl (op_pure hT rfl) ?_
    refine gl_op rfl rfl rfl (op_pure hT rfl) ?_
    refine gl_nil ?_
    refine hK8 _ _ ?_
    clear hK8; try clear K8
    refine gc_ret ?_
    try simp only [x_then_ret, x_block_ret]
    refine gk_ret1 rfl rfl ?_
    have him : i = m := by omega
    subst him
    exact .inr ⟨us, a, A', c', hus, rfl, hS⟩
end Go.Proofs.YtnomlloaahoceaaDoor

