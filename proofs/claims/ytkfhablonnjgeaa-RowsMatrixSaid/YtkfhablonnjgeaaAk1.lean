/- Contracts: lists compared, bits of numbers, rows compared. No condition. -/
import Derived.Test.YtkfhablonnjgeaaMk1
import Derived.Test.YtkfhablonnjgeaaRo5
import Derived.Test.YtkfhablonnjgeaaTo7
namespace Go.Proofs.Ytkfhablonnjgeaa
open Go.RowKit
set_option linter.unusedVariables false
set_option linter.unusedSimpArgs false
@[reducible] def uV (u : Nat) : Value := .int .u64 (u : Nat)
theorem sameInts_calls (A B : Option Addr) (n n2 c c2 : Nat) (l : List Int) (w : World) {ok ok2 : Nat → Prop} (hA : RdE w ok nV A l) (hn : n = l.length) (hB : RdE w ok2 nV B l) (hn2 : n2 = l.length) (hl : l.length ≤ 1048576) :
    Calls Try.prog 20 ⟨[.slice A n c, .slice B n2 c2]⟩ w fun e w' => e = .returned (.bool true) ∧ Below w.heap.size w w' := by
  subst hn
  subst hn2
  refine gc_enter (N := 26) Try.func20 rfl rfl rfl [(0, _), (1, _)] rfl ?_
  have hS := St.start w
  refine gc_seq fun K1 hK1 => ?_
  refine gc_region ?_
  refine gl_op rfl rfl rfl (op_pure hT rfl) ?_
  refine gl_nil ?_
  refine hK1 _ _ ?_
  clear hK1; try clear K1
  refine gc_seq fun K2 hK2 => ?_
  refine gc_seq fun K3 hK3 => ?_
  refine gc_region ?_
  refine gl_op rfl rfl rfl (op_pure hT rfl) ?_
  refine gl_op rfl rfl rfl (op_pure hT rfl) ?_
  refine gl_op rfl rfl rfl (op_pure hT rfl) ?_
  refine gl_op rfl rfl rfl (op_pure hT rfl) ?_
  refine gl_op rfl rfl rfl (op_pure hT rfl) ?_
  refine gl_spell 10 (v := .bool false) rfl (by simp) ?_
  refine gl_nil ?_
  refine hK3 _ _ ?_
  clear hK3; try clear K3
  refine gc_cond_f rfl ?_
  refine gc_skip ?_
  refine hK2 _ _ ?_
  clear hK2; try clear K2
  refine gc_seq fun K4 hK4 => ?_
  refine gc_seq fun K5 hK5 => ?_
  refine gc_region ?_
  refine gl_op rfl rfl rfl (op_pure hT rfl) ?_
  refine gl_nil ?_
  refine hK5 _ _ ?_
  clear hK5; try clear K5
  refine gc_block ?_
  refine gc_loop (fun k a w' => ∃ i : Nat, Fr 26 a [(0, .slice A l.length c), (1, .slice B l.length c2), (5, .int .i64 (i : Nat))] ∧ i ≤ l.length ∧ k = l.length + 1 - i ∧ St w.heap.size w w' []) (l.length + 1) ?_ ?_ ?_
  · intro a ha; exact ⟨0, ha.sub ⟨rfl, rfl, rfl, trivial⟩, by omega, by omega, hS⟩
  · rintro a w ⟨i, _, h1, h2, _⟩; omega
  rintro k a w1 ⟨i, hF, hi, hk, hS⟩
  refine gc_of hF ?_
  clear hF
  refine gc_seq fun K6 hK6 => ?_
  refine gc_seq fun K7 hK7 => ?_
  refine gc_region ?_
  refine gl_op rfl rfl rfl (op_pure hT rfl) ?_
  refine gl_op rfl rfl rfl (op_pure hT rfl) ?_
  refine gl_op rfl rfl rfl (op_pure hT rfl) ?_
  refine gl_op rfl rfl rfl (op_pure hT rfl) ?_
  refine gl_nil ?_
  refine hK7 _ _ ?_
  clear hK7; try clear K7
  refine gc_cond rfl rfl (fun c14 => ?_) (fun c14 => ?_)
  · try simp only [decide_eq_true_eq, decide_eq_false_iff_not, Bool.not_eq_true', Bool.not_eq_false', Int.not_lt, Int.not_le, Nat.not_lt, Nat.not_le, Bool.true_eq, Bool.false_eq, reduceCtorEq] at c14
    refine gc_skip ?_
    refine hK6 _ _ ?_
    clear hK6; try clear K6
    refine gc_seq fun K8 hK8 => ?_
    refine gc_block ?_
    refine gc_seq fun K9 hK9 => ?_
    refine gc_anyS hS (by kernel_rfl) rfl fun nq6 hK => ?_
    have hS := hS.dr nq6
    have hil : i < l.length := by omega
    obtain ⟨u, hu⟩ : ∃ u, l[i]? = some u := ⟨_, List.getElem?_eq_getElem hil⟩
    have hug : l.getD ((i : Int)).toNat 0 = u := by rw [Int.toNat_natCast, List.getD_eq_getElem?_getD, hu]; rfl
    obtain ⟨adA, hAA, hcA⟩ := hA.at 0 (i := (i : Int)) (by omega) (by omega)
    obtain ⟨adB, hAB, hcB⟩ := hB.at 0 (i := (i : Int)) (by omega) (by omega)
    rw [hug] at hcA hcB
    refine ga_take 0 rfl rfl rfl rfl (by kernel_rfl) (fun _ _ _ _ _ h => h) hK (fun w1 hS => op_pure hT rfl) ?_
    refine ga_take 1 rfl rfl rfl rfl (by kernel_rfl) (fun _ _ _ _ _ h => h) hK (fun w1 hS => op_pure hT rfl) ?_
    refine ga_take 2 rfl rfl rfl rfl (by kernel_rfl) (fun _ _ _ _ _ h => h) hK (fun w1 hS => op_indexAddr hT rfl rfl el3.cellsOf.1 el3.cellsOf.2 rfl rfl (by omega) (by omega) hAA) ?_
    refine ga_take 3 rfl rfl rfl rfl (by kernel_rfl) (fun _ _ _ _ _ h => h) hK (fun w1 hS => op_load hT rfl rfl rfl rfl (cellOf hS.below hcA)) ?_
    refine ga_take 4 rfl rfl rfl rfl (by kernel_rfl) (fun _ _ _ _ _ h => h) hK (fun w1 hS => op_pure hT rfl) ?_
    refine ga_take 5 rfl rfl rfl rfl (by kernel_rfl) (fun _ _ _ _ _ h => h) hK (fun w1 hS => op_pure hT rfl) ?_
    refine ga_take 6 rfl rfl rfl rfl (by kernel_rfl) (fun _ _ _ _ _ h => h) hK (fun w1 hS => op_indexAddr hT rfl rfl el3.cellsOf.1 el3.cellsOf.2 rfl rfl (by omega) (by omega) hAB) ?_
    refine ga_take 7 rfl rfl rfl rfl (by kernel_rfl) (fun _ _ _ _ _ h => h) hK (fun w1 hS => op_load hT rfl rfl rfl rfl (cellOf hS.below hcB)) ?_
    refine ga_take 8 rfl rfl rfl rfl (by kernel_rfl) (fun _ _ _ _ _ h => h) hK (fun w1 hS => op_pure hT rfl) ?_
    refine ga_spell 25 (v := .bool false) rfl (by simp) ?_
    refine ga_done (by kernel_rfl) ?_
    refine hK9 _ _ ?_
    clear hK9; try clear K9
    refine gc_cond_f rfl ?_
    refine gc_skip ?_
    refine hK8 _ _ ?_
    clear hK8; try clear K8
    refine gc_region ?_
    refine gl_op rfl rfl rfl (op_pure hT rfl) ?_
    first | refine gl_fit hT rfl rfl rfl rfl (by omega) ?_ | refine gl_op rfl rfl rfl (op_pure hT rfl) ?_
    refine gl_op rfl rfl rfl (op_pure hT rfl) ?_
    refine gl_nil ?_
    intro a ha
    exact ⟨i + 1, ha.sub ⟨rfl, rfl, rfl, trivial⟩, by omega, by omega, hS⟩
  · try simp only [decide_eq_true_eq, decide_eq_false_iff_not, Bool.not_eq_true', Bool.not_eq_false', Int.not_lt, Int.not_le, Nat.not_lt, Nat.not_le, Bool.true_eq, Bool.false_eq, reduceCtorEq] at c14
    refine gc_exit ?_
    refine hK4 _ _ ?_
    clear hK4; try clear K4
    refine gc_seq fun K10 hK10 => ?_
    refine gc_region ?_
    refine gl_op rfl rfl rfl (op_pure hT rfl) ?_
    refine gl_nil ?_
    refine hK10 _ _ ?_
    clear hK10; try clear K10
    refine gc_ret ?_
    try simp only [x_then_ret, x_block_ret]
    refine gk_ret1 rfl rfl ?_
    exact ⟨rfl, hS.below⟩
theorem sameBits_calls (A B : Option Addr) (n n2 c c2 : Nat) (l : List Nat) (w : World) {ok ok2 : Nat → Prop} (hA : RdE w ok uV A l) (hn : n = l.length) (hB : RdE w ok2 uV B l) (hn2 : n2 = l.length) (hl : l.length ≤ 1048576) :
    Calls Try.prog 34 ⟨[.slice A n c, .slice B n2 c2]⟩ w fun e w' => e = .returned (.bool true) ∧ Below w.heap.size w w' := by
  subst hn
  subst hn2
  refine gc_enter (N := 26) Try.func34 rfl rfl rfl [(0, _), (1, _)] rfl ?_
  have hS := St.start w
  refine gc_seq fun K1 hK1 => ?_
  refine gc_region ?_
  refine gl_op rfl rfl rfl (op_pure hT rfl) ?_
  refine gl_nil ?_
  refine hK1 _ _ ?_
  clear hK1; try clear K1
  refine gc_seq fun K2 hK2 => ?_
  refine gc_seq fun K3 hK3 => ?_
  refine gc_region ?_
  refine gl_op rfl rfl rfl (op_pure hT rfl) ?_
  refine gl_op rfl rfl rfl (op_pure hT rfl) ?_
  refine gl_op rfl rfl rfl (op_pure hT rfl) ?_
  refine gl_op rfl rfl rfl (op_pure hT rfl) ?_
  refine gl_op rfl rfl rfl (op_pure hT rfl) ?_
  refine gl_spell 10 (v := .bool false) rfl (by simp) ?_
  refine gl_nil ?_
  refine hK3 _ _ ?_
  clear hK3; try clear K3
  refine gc_cond_f rfl ?_
  refine gc_skip ?_
  refine hK2 _ _ ?_
  clear hK2; try clear K2
  refine gc_seq fun K4 hK4 => ?_
  refine gc_seq fun K5 hK5 => ?_
  refine gc_region ?_
  refine gl_op rfl rfl rfl (op_pure hT rfl) ?_
  refine gl_nil ?_
  refine hK5 _ _ ?_
  clear hK5; try clear K5
  refine gc_block ?_
  refine gc_loop (fun k a w' => ∃ i : Nat, Fr 26 a [(0, .slice A l.length c), (1, .slice B l.length c2), (5, .int .i64 (i : Nat))] ∧ i ≤ l.length ∧ k = l.length + 1 - i ∧ St w.heap.size w w' []) (l.length + 1) ?_ ?_ ?_
  · intro a ha; exact ⟨0, ha.sub ⟨rfl, rfl, rfl, trivial⟩, by omega, by omega, hS⟩
  · rintro a w ⟨i, _, h1, h2, _⟩; omega
  rintro k a w1 ⟨i, hF, hi, hk, hS⟩
  refine gc_of hF ?_
  clear hF
  refine gc_seq fun K6 hK6 => ?_
  refine gc_seq fun K7 hK7 => ?_
  refine gc_region ?_
  refine gl_op rfl rfl rfl (op_pure hT rfl) ?_
  refine gl_op rfl rfl rfl (op_pure hT rfl) ?_
  refine gl_op rfl rfl rfl (op_pure hT rfl) ?_
  refine gl_op rfl rfl rfl (op_pure hT rfl) ?_
  refine gl_nil ?_
  refine hK7 _ _ ?_
  clear hK7; try clear K7
  refine gc_cond rfl rfl (fun c14 => ?_) (fun c14 => ?_)
  · try simp only [decide_eq_true_eq, decide_eq_false_iff_not, Bool.not_eq_true', Bool.not_eq_false', Int.not_lt, Int.not_le, Nat.not_lt, Nat.not_le, Bool.true_eq, Bool.false_eq, reduceCtorEq] at c14
    refine gc_skip ?_
    refine hK6 _ _ ?_
    clear hK6; try clear K6
    refine gc_seq fun K8 hK8 => ?_
    refine gc_block ?_
    refine gc_seq fun K9 hK9 => ?_
    refine gc_anyS hS (by kernel_rfl) rfl fun nq6 hK => ?_
    have hS := hS.dr nq6
    have hil : i < l.length := by omega
    obtain ⟨u, hu⟩ : ∃ u, l[i]? = some u := ⟨_, List.getElem?_eq_getElem hil⟩
    have hug : l.getD ((i : Int)).toNat 0 = u := by rw [Int.toNat_natCast, List.getD_eq_getElem?_getD, hu]; rfl
    obtain ⟨adA, hAA, hcA⟩ := hA.at 0 (i := (i : Int)) (by omega) (by omega)
    obtain ⟨adB, hAB, hcB⟩ := hB.at 0 (i := (i : Int)) (by omega) (by omega)
    rw [hug] at hcA hcB
    refine ga_take 0 rfl rfl rfl rfl (by kernel_rfl) (fun _ _ _ _ _ h => h) hK (fun w1 hS => op_pure hT rfl) ?_
    refine ga_take 1 rfl rfl rfl rfl (by kernel_rfl) (fun _ _ _ _ _ h => h) hK (fun w1 hS => op_pure hT rfl) ?_
    refine ga_take 2 rfl rfl rfl rfl (by kernel_rfl) (fun _ _ _ _ _ h => h) hK (fun w1 hS => op_indexAddr hT rfl rfl el56.cellsOf.1 el56.cellsOf.2 rfl rfl (by omega) (by omega) hAA) ?_
    refine ga_take 3 rfl rfl rfl rfl (by kernel_rfl) (fun _ _ _ _ _ h => h) hK (fun w1 hS => op_load hT rfl rfl rfl rfl (cellOf hS.below hcA)) ?_
    refine ga_take 4 rfl rfl rfl rfl (by kernel_rfl) (fun _ _ _ _ _ h => h) hK (fun w1 hS => op_pure hT rfl) ?_
    refine ga_take 5 rfl rfl rfl rfl (by kernel_rfl) (fun _ _ _ _ _ h => h) hK (fun w1 hS => op_pure hT rfl) ?_
    refine ga_take 6 rfl rfl rfl rfl (by kernel_rfl) (fun _ _ _ _ _ h => h) hK (fun w1 hS => op_indexAddr hT rfl rfl el56.cellsOf.1 el56.cellsOf.2 rfl rfl (by omega) (by omega) hAB) ?_
    refine ga_take 7 rfl rfl rfl rfl (by kernel_rfl) (fun _ _ _ _ _ h => h) hK (fun w1 hS => op_load hT rfl rfl rfl rfl (cellOf hS.below hcB)) ?_
    refine ga_take 8 rfl rfl rfl rfl (by kernel_rfl) (fun _ _ _ _ _ h => h) hK (fun w1 hS => op_pure hT rfl) ?_
    refine ga_spell 25 (v := .bool false) rfl (by simp) ?_
    refine ga_done (by kernel_rfl) ?_
    refine hK9 _ _ ?_
    clear hK9; try clear K9
    refine gc_cond_f rfl ?_
    refine gc_skip ?_
    refine hK8 _ _ ?_
    clear hK8; try clear K8
    refine gc_region ?_
    refine gl_op rfl rfl rfl (op_pure hT rfl) ?_
    first | refine gl_fit hT rfl rfl rfl rfl (by omega) ?_ | refine gl_op rfl rfl rfl (op_pure hT rfl) ?_
    refine gl_op rfl rfl rfl (op_pure hT rfl) ?_
    refine gl_nil ?_
    intro a ha
    exact ⟨i + 1, ha.sub ⟨rfl, rfl, rfl, trivial⟩, by omega, by omega, hS⟩
  · try simp only [decide_eq_true_eq, decide_eq_false_iff_not, Bool.not_eq_true', Bool.not_eq_false', Int.not_lt, Int.not_le, Nat.not_lt, Nat.not_le, Bool.true_eq, Bool.false_eq, reduceCtorEq] at c14
    refine gc_exit ?_
    refine hK4 _ _ ?_
    clear hK4; try clear K4
    refine gc_seq fun K10 hK10 => ?_
    refine gc_region ?_
    refine gl_op rfl rfl rfl (op_pure hT rfl) ?_
    refine gl_nil ?_
    refine hK10 _ _ ?_
    clear hK10; try clear K10
    refine gc_ret ?_
    try simp only [x_then_ret, x_block_ret]
    refine gk_ret1 rfl rfl ?_
    exact ⟨rfl, hS.below⟩
theorem bitsB_calls (A : Option Addr) (n c : Nat) (l : List Nat) (w : World) {ok : Nat → Prop} (h1 : RdE w ok fV A l) (hn : n = l.length) (hl : l.length ≤ 1048576) :
    Calls Try.prog 35 ⟨[.slice A n c]⟩ w fun e w' => ∃ A' c', e = .returned (.slice A' l.length c') ∧ RdE w' All uV A' l ∧ Below w.heap.size w w' := by
  subst hn
  refine gc_enter (N := 20) Try.func35 rfl rfl rfl [(0, _)] rfl ?_
  have hS := St.start w
  refine gc_seq fun K1 hK1 => ?_
  refine gc_region ?_
  refine gl_op rfl rfl rfl (op_pure hT rfl) ?_
  refine gl_nil ?_
  refine hK1 _ _ ?_
  clear hK1; try clear K1
  refine gc_seq fun K2 hK2 => ?_
  refine gc_region ?_
  refine gl_op rfl rfl rfl (op_pure hT rfl) ?_
  refine gl_nil ?_
  refine hK2 _ _ ?_
  clear hK2; try clear K2
  refine gc_seq fun K3 hK3 => ?_
  refine gc_seq fun K4 hK4 => ?_
  refine gc_region ?_
  refine gl_op rfl rfl rfl (op_pure hT rfl) ?_
  refine gl_nil ?_
  refine hK4 _ _ ?_
  clear hK4; try clear K4
  refine gc_block ?_
  have hS := hS.nil 56 1
  refine gc_loop (fun k a w' => ∃ (i : Nat) (A' : Option Addr) (c' : Nat), Fr 20 a [(0, .slice A l.length c), (3, .slice A' i c'), (4, .int .i64 (i : Nat))] ∧ i ≤ l.length ∧ k = l.length + 1 - i ∧
    St w.heap.size w w' [.row A' c' 56 1 i ((l.take i).map uV)]) (l.length + 1) ?_ ?_ ?_
  · intro a ha; exact ⟨0, none, 0, ha.sub ⟨rfl, rfl, rfl, trivial⟩, by omega, by omega, hS⟩
  · rintro a w ⟨i, _, _, _, h1, h2, _⟩; omega
  rintro k a w1 ⟨i, A', c', hF, hi, hk, hS⟩
  refine gc_of hF ?_
  clear hF
  refine gc_seq fun K5 hK5 => ?_
  refine gc_seq fun K6 hK6 => ?_
  refine gc_region ?_
  refine gl_op rfl rfl rfl (op_pure hT rfl) ?_
  refine gl_op rfl rfl rfl (op_pure hT rfl) ?_
  refine gl_op rfl rfl rfl (op_pure hT rfl) ?_
  refine gl_op rfl rfl rfl (op_pure hT rfl) ?_
  refine gl_nil ?_
  refine hK6 _ _ ?_
  clear hK6; try clear K6
  refine gc_cond rfl rfl (fun c8 => ?_) (fun c8 => ?_)
  · try simp only [decide_eq_true_eq, decide_eq_false_iff_not, Bool.not_eq_true', Bool.not_eq_false', Int.not_lt, Int.not_le, Nat.not_lt, Nat.not_le, Bool.true_eq, Bool.false_eq, reduceCtorEq] at c8
    refine gc_skip ?_
    refine hK5 _ _ ?_
    clear hK5; try clear K5
    refine gc_seq fun K7 hK7 => ?_
    refine gc_block ?_
    refine gc_region ?_
    refine gl_op rfl rfl rfl (op_pure hT rfl) ?_
    refine gl_op rfl rfl rfl (op_pure hT rfl) ?_
    refine gl_op rfl rfl rfl (op_pure hT rfl) ?_
    have hil : i < l.length := by omega
    obtain ⟨u, hu⟩ : ∃ u, l[i]? = some u := ⟨_, List.getElem?_eq_getElem hil⟩
    obtain ⟨ad, hA, hc⟩ := (h1.old hS).at 0 (i := (i : Int)) (by omega) (by omega)
    have hug : l.getD ((i : Int)).toNat 0 = u := by rw [Int.toNat_natCast, List.getD_eq_getElem?_getD, hu]; rfl
    rw [hug] at hc
    have htake : l.take (i + 1) = l.take i ++ [u] := by rw [List.take_add_one, hu]; rfl
    refine gl_op rfl rfl rfl (op_indexAddr hT rfl rfl el28.cellsOf.1 el28.cellsOf.2 rfl rfl (by omega) (by omega) hA) ?_
    refine gl_op rfl rfl rfl (op_load hT rfl rfl rfl rfl hc) ?_
    refine gl_callf rfl rfl rfl rfl Try.func36 rfl rfl rfl (mBits_calls u _) ?_
    rintro _ _ ⟨rfl, n16, rfl⟩
    refine ⟨_, rfl, ?_⟩
    have hS := hS.dr n16
    refine gl_lit hT hS el56 rfl rfl rfl rfl rfl rfl rfl rfl rfl fun g17 w17 hS => ?_
    refine gl_append 0 hT hS el56 (hS.rd (i := 1) rfl) (rfl) rfl rfl rfl rfl rfl rfl rfl rfl (by first | omega | (simp; omega)) (by first | omega | (simp; omega)) fun A18 c18 w18 hS => ?_
    have hS := hS.erase 1
    refine gl_op rfl rfl rfl (op_pure hT rfl) ?_
    refine gl_nil ?_
    refine hK7 _ _ ?_
    clear hK7; try clear K7
    refine gc_region ?_
    refine gl_op rfl rfl rfl (op_pure hT rfl) ?_
    first | refine gl_fit hT rfl rfl rfl rfl (by omega) ?_ | refine gl_op rfl rfl rfl (op_pure hT rfl) ?_
    refine gl_op rfl rfl rfl (op_pure hT rfl) ?_
    refine gl_nil ?_
    intro a ha
    refine ⟨i + 1, A18, c18, ha.sub ⟨rfl, rfl, rfl, trivial⟩, by omega, by omega, ?_⟩
    rw [htake, List.map_append]
    exact hS
  · try simp only [decide_eq_true_eq, decide_eq_false_iff_not, Bool.not_eq_true', Bool.not_eq_false', Int.not_lt, Int.not_le, Nat.not_lt, Nat.not_le, Bool.true_eq, Bool.false_eq, reduceCtorEq] at c8
    refine gc_exit ?_
    refine hK3 _ _ ?_
    clear hK3; try clear K3
    refine gc_seq fun K8 hK8 => ?_
    refine gc_region ?_
    refine gl_op rfl rfl rfl (op_pure hT rfl) ?_
    refine gl_op rfl rfl rfl (op_pure hT rfl) ?_
    refine gl_nil ?_
    refine hK8 _ _ ?_
    clear hK8; try clear K8
    refine gc_ret ?_
    try simp only [x_then_ret, x_block_ret]
    refine gk_ret1 rfl rfl ?_
    have hie : i = l.length := by omega
    subst hie
    rw [List.take_length] at hS
    exact ⟨A', c', rfl, hS.rdE (i := 0) rfl, hS.below⟩
set_option maxRecDepth 100000 in
theorem alike_calls (La Lb : Ly) (wa ba wb bb : List Nat) (za ya zb yb : List (Nat × Nat)) (s : Sh) (i : Int) (w : World) (hLa : La.ok) (hLb : Lb.ok) (hs : s.ok) (Da : LyD w All La wa ba za ya) (Db : LyD w All Lb wb bb zb yb) (hi64 : i64 i)
    (cols : List Int) (ws : List Nat) (b : Nat) (hRa : (⟨cols, ws, b, 0⟩ : Rw) = rowV La wa ba za ya s i) (hRb : (⟨cols, ws, b, 0⟩ : Rw) = rowV Lb wb bb zb yb s i) (hcl : cols.length ≤ 1048576) (hwl : ws.length ≤ 1048576) :
    Calls Try.prog 16 ⟨[.agg ⟨lyC La⟩, .agg ⟨lyC Lb⟩, .agg ⟨shC s⟩, .int .i64 i]⟩ w fun e w' => e = .returned (.bool true) ∧ Below w.heap.size w w' := by
  refine gc_enter (N := 60) Try.func16 rfl rfl rfl [(0, _), (1, _), (2, _), (3, _)] rfl ?_
  have hS := St.start w
  refine gc_seq fun K1 hK1 => ?_
  refine gc_region ?_
  refine gl_box hS rfl rfl rfl rfl rfl fun g4 w4 hS => ?_
  refine gl_box hS rfl rfl rfl rfl rfl fun g5 w5 hS => ?_
  refine gl_box hS rfl rfl rfl rfl rfl fun g6 w6 hS => ?_
  refine gl_op rfl rfl rfl (op_pure hT rfl) ?_
  refine gl_nil ?_
  refine hK1 _ _ ?_
  clear hK1; try clear K1
  refine gc_seq fun K2 hK2 => ?_
  refine gc_region ?_
  refine gl_op rfl rfl rfl (op_loadG 0 Try.underlying32 rfl el32 hS rfl rfl rfl rfl rfl) ?_
  refine gl_op rfl rfl rfl (op_loadG 2 Try.underlying27 rfl el27 hS rfl rfl rfl rfl rfl) ?_
  refine gl_op rfl rfl rfl (op_pure hT rfl) ?_
  refine gl_callf rfl rfl rfl rfl Try.func15 rfl rfl rfl (row_calls La wa ba za ya s i _ hLa hs (Da.old hS) hi64 _ hRa) ?_
  rintro _ w21 ⟨A1, c1, A2, c2, rfl, hr1, hr2, hb21⟩
  refine ⟨_, rfl, ?_⟩
  have hS := hS.grown hb21
  refine gl_op rfl rfl rfl (op_pure hT rfl) ?_
  refine gl_op rfl rfl rfl (op_pure hT rfl) ?_
  refine gl_op rfl rfl rfl (op_pure hT rfl) ?_
  refine gl_op rfl rfl rfl (op_pure hT rfl) ?_
  refine gl_op rfl rfl rfl (op_pure hT rfl) ?_
  refine gl_op rfl rfl rfl (op_pure hT rfl) ?_
  refine gl_op rfl rfl rfl (op_pure hT rfl) ?_
  refine gl_op rfl rfl rfl (op_pure hT rfl) ?_
  refine gl_op rfl rfl rfl (op_pure hT rfl) ?_
  refine gl_nil ?_
  refine hK2 _ _ ?_
  clear hK2; try clear K2
  refine gc_seq fun K3 hK3 => ?_
  refine gc_region ?_
  refine gl_op rfl rfl rfl (op_loadG 1 Try.underlying32 rfl el32 hS rfl rfl rfl rfl rfl) ?_
  refine gl_op rfl rfl rfl (op_loadG 2 Try.underlying27 rfl el27 hS rfl rfl rfl rfl rfl) ?_
  refine gl_op rfl rfl rfl (op_pure hT rfl) ?_
  refine gl_callf rfl rfl rfl rfl Try.func15 rfl rfl rfl (row_calls Lb wb bb zb yb s i _ hLb hs (Db.old hS) hi64 _ hRb) ?_
  rintro _ w30 ⟨A3, c3, A4, c4, rfl, hr3, hr4, hb30⟩
  refine ⟨_, rfl, ?_⟩
  have hS := hS.grown hb30
  have hr1 := hr1.below hb30
  have hr2 := hr2.below hb30
  refine gl_op rfl rfl rfl (op_pure hT rfl) ?_
  refine gl_op rfl rfl rfl (op_pure hT rfl) ?_
  refine gl_op rfl rfl rfl (op_pure hT rfl) ?_
  refine gl_op rfl rfl rfl (op_pure hT rfl) ?_
  refine gl_op rfl rfl rfl (op_pure hT rfl) ?_
  refine gl_op rfl rfl rfl (op_pure hT rfl) ?_
  refine gl_op rfl rfl rfl (op_pure hT rfl) ?_
  refine gl_op rfl rfl rfl (op_pure hT rfl) ?_
  refine gl_op rfl rfl rfl (op_pure hT rfl) ?_
  refine gl_nil ?_
  refine hK3 _ _ ?_
  clear hK3; try clear K3
  refine gc_seq fun K4 hK4 => ?_
  refine gc_region ?_
  refine gl_op rfl rfl rfl (op_pure hT rfl) ?_
  refine gl_op rfl rfl rfl (op_pure hT rfl) ?_
  refine gl_op rfl rfl rfl (op_pure hT rfl) ?_
  refine gl_un rfl rfl rfl rfl ?_
  refine gl_op rfl rfl rfl (op_pure hT rfl) ?_
  refine gl_un rfl rfl rfl rfl ?_
  refine gl_op rfl rfl rfl (op_pure hT rfl) ?_
  refine gl_op rfl rfl rfl (op_pure hT rfl) ?_
  refine gl_op rfl rfl rfl (op_pure hT rfl) ?_
  refine gl_un rfl rfl rfl rfl ?_
  refine gl_op rfl rfl rfl (op_pure hT rfl) ?_
  refine gl_un rfl rfl rfl rfl ?_
  refine gl_op rfl rfl rfl (op_pure hT rfl) ?_
  refine gl_un rfl rfl rfl rfl ?_
  refine gl_callf rfl rfl rfl rfl Try.func20 rfl rfl rfl (sameInts_calls A1 A3 _ _ _ _ cols _ hr1 rfl hr3 rfl hcl) ?_
  rintro _ w44 ⟨rfl, hb44⟩
  refine ⟨_, rfl, ?_⟩
  have hS := hS.grown hb44
  have hr2 := hr2.below hb44
  have hr4 := hr4.below hb44
  refine gl_op rfl rfl rfl (op_pure hT rfl) ?_
  refine gl_op rfl rfl rfl (op_pure hT rfl) ?_
  refine gl_un rfl rfl rfl rfl ?_
  refine gl_op rfl rfl rfl (op_pure hT rfl) ?_
  refine gl_un rfl rfl rfl rfl ?_
  refine gl_callf rfl rfl rfl rfl Try.func35 rfl rfl rfl (bitsB_calls A2 _ _ ws _ hr2 rfl hwl) ?_
  rintro _ w48 ⟨A48, c48, rfl, hr48, hb48⟩
  refine ⟨_, rfl, ?_⟩
  have hS := hS.grown hb48
  have hr4 := hr4.below hb48
  refine gl_un rfl rfl rfl rfl ?_
  refine gl_op rfl rfl rfl (op_pure hT rfl) ?_
  refine gl_un rfl rfl rfl rfl ?_
  refine gl_callf rfl rfl rfl rfl Try.func35 rfl rfl rfl (bitsB_calls A4 _ _ ws _ hr4 rfl hwl) ?_
  rintro _ w50 ⟨A50, c50, rfl, hr50, hb50⟩
  refine ⟨_, rfl, ?_⟩
  have hS := hS.grown hb50
  have hr48 := hr48.below hb50
  refine gl_un rfl rfl rfl rfl ?_
  refine gl_callf rfl rfl rfl rfl Try.func34 rfl rfl rfl (sameBits_calls A48 A50 _ _ _ _ ws _ hr48 rfl hr50 rfl hwl) ?_
  rintro _ w51 ⟨rfl, hb51⟩
  refine ⟨_, rfl, ?_⟩
  have hS := hS.grown hb51
  refine gl_op rfl rfl rfl (op_pure hT rfl) ?_
  refine gl_op rfl rfl rfl (op_pure hT rfl) ?_
  refine gl_un rfl rfl rfl rfl ?_
  refine gl_op rfl rfl rfl (op_pure hT rfl) ?_
  refine gl_un rfl rfl rfl rfl ?_
  refine gl_callf rfl rfl rfl rfl Try.func36 rfl rfl rfl (mBits_calls b _) ?_
  rintro _ _ ⟨rfl, n55, rfl⟩
  refine ⟨_, rfl, ?_⟩
  have hS := hS.dr n55
  refine gl_un rfl rfl rfl rfl ?_
  refine gl_op rfl rfl rfl (op_pure hT rfl) ?_
  refine gl_un rfl rfl rfl rfl ?_
  refine gl_callf rfl rfl rfl rfl Try.func36 rfl rfl rfl (mBits_calls b _) ?_
  rintro _ _ ⟨rfl, n57, rfl⟩
  refine ⟨_, rfl, ?_⟩
  have hS := hS.dr n57
  refine gl_un rfl rfl rfl rfl ?_
  refine gl_op rfl rfl rfl (op_pure hT rfl) ?_
  refine gl_spell 58 (v := .bool true) rfl (by simp) ?_
  refine gl_op rfl rfl rfl (op_pure hT rfl) ?_
  refine gl_op rfl rfl rfl (op_pure hT rfl) ?_
  refine gl_nil ?_
  refine hK4 _ _ ?_
  clear hK4; try clear K4
  refine gc_ret ?_
  try simp only [x_then_ret, x_block_ret]
  refine gk_ret1 rfl rfl ?_
  exact ⟨rfl, hS.below⟩
end Go.Proofs.Ytkfhablonnjgeaa
