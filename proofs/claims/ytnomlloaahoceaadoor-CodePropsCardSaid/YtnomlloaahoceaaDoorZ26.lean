/- Contracts of functions that CodeProps reaches, and words to say them. No condition. -/
import Derived.Test.YtnomlloaahoceaaDoorZ25
/- Contracts of package ambitref8: a question's bytes. No condition. -/
namespace Go.Proofs.YtnomlloaahoceaaDoor
open Go.RowKit
set_option linter.unusedVariables false
set_option linter.unusedSimpArgs false
theorem encs_cat (a b : List Int) : encs (a ++ b) = encs a ++ encs b := by simp [encs]
theorem encs_le9 {v : Int} (h : v ≤ 9223372036854775807) : (encs [v]).length ≤ 9 := by
  have := encs_le [v] (fun x hx => by rw [List.mem_singleton.1 hx]; exact h)
  simpa using this
set_option maxHeartbeats 4000000 in
set_option maxRecDepth 100000 in
theorem rEncodeProp_calls (C G M : Sv) (SG SM : List Sv) (p : Px) (w : World) {ok : Nat → Prop} (D : PrU w ok C G M SG SM p) :
    Calls Tryd.prog 6 ⟨[.agg ⟨propC C G M p⟩]⟩ w fun e w' => ∃ A c, e = .returned (.tuple #[.slice A (encPV p).length c, .int .i64 (formV p).1, .int .i64 (formV p).2]) ∧ St w.heap.size w w' [.row A c 5 1 (encPV p).length ((encPV p).map uB)] := by
  have hnC := D.nC
  have hnG := D.nG
  have hnM := D.nM
  obtain ⟨C1, C2, C3⟩ := C
  obtain ⟨G1, G2, G3⟩ := G
  obtain ⟨M1, M2, M3⟩ := M
  simp only at hnC hnG hnM
  subst hnC
  subst hnG
  subst hnM
  have hGl := D.rG.len
  have hMl := D.rM.len
  refine gc_enter (N := 91) Tryd.func6 rfl rfl rfl [(0, _)] rfl ?_
  have hS := St.start w
  refine gc_seq fun K1 hK1 => ?_
  refine gc_region ?_
  refine gl_box hS rfl rfl rfl rfl rfl fun g1 w1 hS => ?_
  refine gl_op rfl rfl rfl (op_pure hT rfl) ?_
  refine gl_op rfl rfl rfl (op_pure hT rfl) ?_
  refine gl_op rfl rfl rfl (op_pure hT rfl) ?_
  refine gl_nil ?_
  refine hK1 _ _ ?_
  clear hK1; try clear K1
  refine gc_seq fun K2 hK2 => ?_
  refine gc_region ?_
  refine gl_op rfl rfl rfl (op_loadG 0 Tryd.underlying29 rfl el29 hS rfl rfl rfl rfl rfl) ?_
  refine gl_callf rfl rfl rfl rfl Tryd.func16 rfl rfl rfl (rCheckForm_calls _ _ _ SG SM p _ (D.old hS)) ?_
  rintro _ w12 ⟨rfl, hb12⟩
  refine ⟨_, rfl, ?_⟩
  have hS := hS.grown hb12
  refine gl_op rfl rfl rfl (op_pure hT rfl) ?_
  refine gl_op rfl rfl rfl (op_pure hT rfl) ?_
  refine gl_op rfl rfl rfl (op_pure hT rfl) ?_
  refine gl_op rfl rfl rfl (op_pure hT rfl) ?_
  refine gl_op rfl rfl rfl (op_pure hT rfl) ?_
  refine gl_nil ?_
  refine hK2 _ _ ?_
  clear hK2; try clear K2
  refine gc_seq fun K3 hK3 => ?_
  refine gc_seq fun K4 hK4 => ?_
  refine gc_region ?_
  refine gl_op rfl rfl rfl (op_pure hT rfl) ?_
  refine gl_op rfl rfl rfl (op_pure hT rfl) ?_
  refine gl_nil ?_
  refine hK4 _ _ ?_
  clear hK4; try clear K4
  refine gc_cond rfl rfl (fun c16 => ?_) (fun c16 => ?_)
  · try simp only [decide_eq_true_eq, decide_eq_false_iff_not, Bool.not_eq_true', Bool.not_eq_false', Int.not_lt, Int.not_le, Nat.not_lt, Nat.not_le, Bool.true_eq, Bool.false_eq, reduceCtorEq] at c16
    have hz : encPV p = [] := by unfold encPV; rw [if_pos (by omega)]
    refine gc_seq fun K5 hK5 => ?_
    refine gc_region ?_
    refine gl_op rfl rfl rfl (op_pure hT rfl) ?_
    refine gl_op rfl rfl rfl (op_pure hT rfl) ?_
    refine gl_op rfl rfl rfl (op_pure hT rfl) ?_
    refine gl_op rfl rfl rfl (op_pure hT rfl) ?_
    refine gl_op rfl rfl rfl (op_pure hT rfl) ?_
    refine gl_nil ?_
    refine hK5 _ _ ?_
    clear hK5; try clear K5
    refine gc_ret ?_
    try simp only [x_then_ret, x_block_ret]
    refine gk_ret3 rfl rfl rfl rfl ?_
    rw [hz]
    exact ⟨none, 0, rfl, (hS.nil 5 1).erase 0⟩
  · try simp only [decide_eq_true_eq, decide_eq_false_iff_not, Bool.not_eq_true', Bool.not_eq_false', Int.not_lt, Int.not_le, Nat.not_lt, Nat.not_le, Bool.true_eq, Bool.false_eq, reduceCtorEq] at c16
    have hf := formV_0 (by omega : (formV p).1 = 0)
    have hfz : (formV p).1 = 0 := by omega
    have hfT := hf.T
    have hfG := hf.G.1
    have hfM := hf.M.1
    have hfC := hf.C
    refine gc_skip ?_
    refine hK3 _ _ ?_
    clear hK3; try clear K3
    refine gc_cut (fun a w' => ∃ A c l, Fr 91 a [(1, .pointer (some ⟨g1, 0, none⟩)), (7, .slice A l.length c)] ∧ l = hdP ∧ St w.heap.size w w' [.row A c 5 1 (l).length ((l).map uB), .blk g1 29 (propC (C1, p.C.length, C3) (G1, p.G.length, G3) (M1, p.M.length, M3) p)]) ?_ ?_
    · skip
      refine gc_region ?_
      refine gl_lit hT hS el5 rfl rfl rfl rfl rfl rfl rfl rfl rfl fun g19 w19 hS => ?_
      refine gl_op rfl rfl rfl (op_pure hT rfl) ?_
      refine gl_nil ?_
      intro a ha
      exact ⟨some ⟨g19, 0, none⟩, 5, hdP, ha.sub ⟨rfl, rfl, trivial⟩, rfl, hS.permute (.swap ..)⟩
    rintro a w1 ⟨A, c, l, hF, hl, hS⟩
    refine gc_of hF ?_
    clear hF
    have hll : l.length = 5 := by rw [hl]; rfl
    have hlC := encs_le9 (v := (p.C.length : Int)) (by omega)
    refine gc_seq fun K6 hK6 => ?_
    refine gc_anyS (hS.blank 0) (by kernel_rfl) rfl fun nq5 hK => ?_
    have hS := hS.dr nq5
    refine ga_take 0 rfl rfl rfl rfl (by kernel_rfl) (fun _ _ _ _ h => h) hK (fun w1 hS => op_pure hT rfl) ?_
    refine ga_take 1 rfl rfl rfl rfl (by kernel_rfl) (fun _ _ _ _ h => h) hK (fun w1 hS => op_fieldB 0 rfl Tryd.underlying29 rfl el26 rfl rfl) ?_
    refine ga_take 2 rfl rfl rfl rfl (by kernel_rfl) (fun _ _ _ _ h => h) hK (fun w1 hS => op_loadB 1 hT hS rfl rfl rfl rfl rfl rfl) ?_
    refine ga_take 3 rfl rfl rfl rfl (by kernel_rfl) (fun _ _ _ _ h => h) hK (fun w1 hS => op_pure hT rfl) ?_
    refine ga_take 5 rfl rfl rfl rfl (by kernel_rfl) (fun _ _ _ _ h => h) hK (fun w1 hS => op_fieldB 0 rfl Tryd.underlying29 rfl el26 rfl rfl) ?_
    refine ga_take 6 rfl rfl rfl rfl (by kernel_rfl) (fun _ _ _ _ h => h) hK (fun w1 hS => op_loadB 1 hT hS rfl rfl rfl rfl rfl rfl) ?_
    refine ga_one 4 (by kernel_rfl) rfl ?_
    refine gl_callf rfl rfl rfl rfl Tryd.func18 rfl rfl rfl (rPutUint_calls A c (l) ((p.C.length : Int)) _ _ hS (by omega) (by omega)) ?_
    rintro _ w24 ⟨A, c, rfl, hS⟩
    refine ⟨_, rfl, ?_⟩
    refine gl_nil ?_
    refine ga_next ((hS.blank 0).pre 2) fun hK => ?_
    refine ga_one 7 (by kernel_rfl) rfl ?_
    refine gl_callf rfl rfl rfl rfl Tryd.func17 rfl rfl rfl (rPutFloats_calls A c (l ++ encs [(p.C.length : Int)]) _ _ (p.C) _ _ hS (fun hS => D.rC.old hS) (by rw [List.length_append]; omega) (D.fC)) ?_
    rintro _ w27 ⟨A, c, rfl, hS⟩
    refine ⟨_, rfl, ?_⟩
    have hfCl := encf_le p.C
    refine gl_nil ?_
    refine ga_next ((hS.blank 0).pre 2) fun hK => ?_
    refine ga_take 8 rfl rfl rfl rfl (by kernel_rfl) (fun _ _ _ _ h => h) hK (fun w1 hS => op_pure hT rfl) ?_
    refine ga_done (by kernel_rfl) ?_
    refine hK6 _ _ ?_
    clear hK6; try clear K6
    refine gc_seq fun K7 hK7 => ?_
    refine gc_region ?_
    refine gl_op rfl rfl rfl (op_pure hT rfl) ?_
    refine gl_op rfl rfl rfl (op_fieldB 1 rfl Tryd.underlying29 rfl el27 rfl rfl) ?_
    refine gl_op rfl rfl rfl (op_loadB 1 hT hS rfl rfl rfl rfl rfl rfl) ?_
    refine gl_op rfl rfl rfl (op_pure hT rfl) ?_
    refine gl_callf rfl rfl rfl rfl Tryd.func18 rfl rfl rfl (rPutUint_calls A c (l ++ encs [(p.C.length : Int)] ++ encf p.C) ((p.G.length : Int)) _ _ hS (by simp only [List.length_append]; omega) (by omega)) ?_
    rintro _ w32 ⟨A, c, rfl, hS⟩
    refine ⟨_, rfl, ?_⟩
    have hl1 : l ++ encs [(p.C.length : Int)] ++ encf p.C ++ encs [(p.G.length : Int)] = encP1 p := by rw [hl]; rfl
    rw [hl1] at hS ⊢
    clear hl1 hl hll
    refine gl_op rfl rfl rfl (op_pure hT rfl) ?_
    refine gl_nil ?_
    refine hK7 _ _ ?_
    clear hK7; try clear K7
    refine gc_seq fun K8 hK8 => ?_
    refine gc_seq fun K9 hK9 => ?_
    refine gc_region ?_
    refine gl_op rfl rfl rfl (op_pure hT rfl) ?_
    refine gl_nil ?_
    refine hK9 _ _ ?_
    clear hK9; try clear K9
    refine gc_block ?_
    refine gc_loop (fun kk a' w' => ∃ (i : Nat) (m : List UInt8) (A : Option Addr) (c : Nat), Fr 91 a' [(1, .pointer (some ⟨g1, 0, none⟩)), (7, .slice A m.length c), (8, .int .i64 (i : Nat))] ∧ i ≤ p.G.length ∧ kk = p.G.length + 1 - i ∧ m = encP1 p ++ encG (p.G.take i) ∧
      St w.heap.size w w' [.row A c 5 1 (m).length ((m).map uB), .blk g1 29 (propC (C1, p.C.length, C3) (G1, p.G.length, G3) (M1, p.M.length, M3) p)]) (p.G.length + 1) ?_ ?_ ?_
    · intro a' ha; exact ⟨0, encP1 p, A, c, ha.sub ⟨rfl, rfl, rfl, trivial⟩, by omega, by omega, by simp [encG], hS⟩
    · rintro a' w' ⟨i, _, _, _, _, h1, h2, _⟩; omega
    clear hS
    rintro kk a' w1 ⟨i, m, A, c, hF, hi, hk, hm, hS⟩
    refine gc_of hF ?_
    clear hF
    have hml : m.length ≤ 530000 := by
      have h1 := encP1_le hf
      have h2 := encG_le (k := 256) (p.G.take i) fun x hx => hf.G.2 x (List.mem_of_mem_take hx)
      rw [List.length_take] at h2
      rw [hm, List.length_append]
      omega
    refine gc_seq fun K10 hK10 => ?_
    refine gc_seq fun K11 hK11 => ?_
    refine gc_region ?_
    refine gl_op rfl rfl rfl (op_pure hT rfl) ?_
    refine gl_op rfl rfl rfl (op_fieldB 1 rfl Tryd.underlying29 rfl el27 rfl rfl) ?_
    refine gl_op rfl rfl rfl (op_loadB 1 hT hS rfl rfl rfl rfl rfl rfl) ?_
    refine gl_op rfl rfl rfl (op_pure hT rfl) ?_
    refine gl_op rfl rfl rfl (op_pure hT rfl) ?_
    refine gl_nil ?_
    refine hK11 _ _ ?_
    clear hK11; try clear K11
    refine gc_cond rfl rfl (fun c37 => ?_) (fun c37 => ?_)
    · try simp only [decide_eq_true_eq, decide_eq_false_iff_not, Bool.not_eq_true', Bool.not_eq_false', Int.not_lt, Int.not_le, Nat.not_lt, Nat.not_le, Bool.true_eq, Bool.false_eq, reduceCtorEq] at c37
      refine gc_skip ?_
      refine hK10 _ _ ?_
      clear hK10; try clear K10
      refine gc_seq fun K12 hK12 => ?_
      refine gc_block ?_
      refine gc_region ?_
      refine gl_op rfl rfl rfl (op_pure hT rfl) ?_
      refine gl_op rfl rfl rfl (op_fieldB 1 rfl Tryd.underlying29 rfl el27 rfl rfl) ?_
      refine gl_op rfl rfl rfl (op_loadB 1 hT hS rfl rfl rfl rfl rfl rfl) ?_
      refine gl_op rfl rfl rfl (op_pure hT rfl) ?_
      have hiG : i < p.G.length := by omega
      obtain ⟨x, hx⟩ : ∃ x, p.G[i]? = some x := ⟨_, List.getElem?_eq_getElem hiG⟩
      obtain ⟨y, hy⟩ : ∃ y, SG[i]? = some y := ⟨_, List.getElem?_eq_getElem (by omega)⟩
      have hxy := D.rG.rd i y x hy hx
      have hx256 := hf.G.2 x (List.mem_of_getElem? hx)
      have htk : p.G.take (i + 1) = p.G.take i ++ [x] := by rw [List.take_add_one, hx]; rfl
      obtain ⟨ad, hA, hcl⟩ := (D.rG.rS.old hS).at (none, 0, 0) (i := (i : Int)) (by omega) (by omega)
      have hug : SG.getD ((i : Int)).toNat (none, 0, 0) = y := by rw [Int.toNat_natCast, List.getD_eq_getElem?_getD, hy]; rfl
      rw [hug] at hcl
      obtain ⟨y1, y2, y3⟩ := y
      obtain ⟨hxy1, hxy2, hxy3⟩ := hxy
      simp only at hxy1 hxy2
      subst hxy2
      refine gl_op rfl rfl rfl (op_indexAddr hT rfl rfl el26.cellsOf.1 el26.cellsOf.2 rfl rfl (by omega) (by omega) hA) ?_
      refine gl_op rfl rfl rfl (op_load hT rfl rfl rfl rfl hcl) ?_
      refine gl_callf rfl rfl rfl rfl Tryd.func17 rfl rfl rfl (rPutFloats_calls A c (m) _ _ (x) _ _ hS (fun hS => hxy1.old hS) (by omega) (hxy3.2)) ?_
      rintro _ w46 ⟨A, c, rfl, hS⟩
      refine ⟨_, rfl, ?_⟩
      refine gl_op rfl rfl rfl (op_pure hT rfl) ?_
      refine gl_nil ?_
      refine hK12 _ _ ?_
      clear hK12; try clear K12
      refine gc_region ?_
      refine gl_op rfl rfl rfl (op_pure hT rfl) ?_
      first | refine gl_fit hT rfl rfl rfl rfl (by omega) ?_ | refine gl_op rfl rfl rfl (op_pure hT rfl) ?_
      refine gl_op rfl rfl rfl (op_pure hT rfl) ?_
      refine gl_nil ?_
      intro a' ha
      exact ⟨i + 1, m ++ encf x, A, c, ha.sub ⟨rfl, rfl, rfl, trivial⟩, by omega, by omega, by rw [hm, htk, encG_snoc, List.append_assoc], hS⟩
    · try simp only [decide_eq_true_eq, decide_eq_false_iff_not, Bool.not_eq_true', Bool.not_eq_false', Int.not_lt, Int.not_le, Nat.not_lt, Nat.not_le, Bool.true_eq, Bool.false_eq, reduceCtorEq] at c37
      have hiG : i = p.G.length := by omega
      subst hiG
      rw [List.take_length] at hm
      have hlT := encs_le9 (v := p.T + 1) (by omega)
      refine gc_exit ?_
      refine hK8 _ _ ?_
      clear hK8; try clear K8
      refine gc_seq fun K13 hK13 => ?_
      refine gc_anyS (hS.blank 0) (by kernel_rfl) rfl fun nq11 hK => ?_
      have hS := hS.dr nq11
      refine ga_take 0 rfl rfl rfl rfl (by kernel_rfl) (fun _ _ _ _ h => h) hK (fun w1 hS => op_pure hT rfl) ?_
      refine ga_take 1 rfl rfl rfl rfl (by kernel_rfl) (fun _ _ _ _ h => h) hK (fun w1 hS => op_fieldB 2 rfl Tryd.underlying29 rfl el3 rfl rfl) ?_
      refine ga_take 2 rfl rfl rfl rfl (by kernel_rfl) (fun _ _ _ _ h => h) hK (fun w1 hS => op_loadB 1 hT hS rfl rfl rfl rfl rfl rfl) ?_
      refine ga_take 3 rfl rfl rfl rfl (by kernel_rfl) (fun _ _ _ _ h => h) hK (fun w1 hS => op_fit (n := p.T + 1) hT rfl (by omega)) ?_
      refine ga_take 5 rfl rfl rfl rfl (by kernel_rfl) (fun _ _ _ _ h => h) hK (fun w1 hS => op_fieldB 3 rfl Tryd.underlying29 rfl el27 rfl rfl) ?_
      refine ga_take 6 rfl rfl rfl rfl (by kernel_rfl) (fun _ _ _ _ h => h) hK (fun w1 hS => op_loadB 1 hT hS rfl rfl rfl rfl rfl rfl) ?_
      refine ga_take 7 rfl rfl rfl rfl (by kernel_rfl) (fun _ _ _ _ h => h) hK (fun w1 hS => op_pure hT rfl) ?_
      refine ga_one 4 (by kernel_rfl) rfl ?_
      refine gl_callf rfl rfl rfl rfl Tryd.func18 rfl rfl rfl (rPutUint_calls A c (m) (p.T + 1) _ _ hS (by omega) (by omega)) ?_
      rintro _ w51 ⟨A, c, rfl, hS⟩
      refine ⟨_, rfl, ?_⟩
      refine gl_nil ?_
      refine ga_next ((hS.blank 0).pre 2) fun hK => ?_
      refine ga_one 8 (by kernel_rfl) rfl ?_
      refine gl_callf rfl rfl rfl rfl Tryd.func18 rfl rfl rfl (rPutUint_calls A c (m ++ encs [p.T + 1]) ((p.M.length : Int)) _ _ hS (by rw [List.length_append]; omega) (by omega)) ?_
      rintro _ w55 ⟨A, c, rfl, hS⟩
      refine ⟨_, rfl, ?_⟩
      have hl2 : m ++ encs [p.T + 1] ++ encs [(p.M.length : Int)] = encP2 p := by rw [hm, List.append_assoc, ← encs_cat]; rfl
      rw [hl2] at hS ⊢
      clear hl2 hm
      refine gl_nil ?_
      refine ga_next ((hS.blank 0).pre 2) fun hK => ?_
      refine ga_take 9 rfl rfl rfl rfl (by kernel_rfl) (fun _ _ _ _ h => h) hK (fun w1 hS => op_pure hT rfl) ?_
      refine ga_done (by kernel_rfl) ?_
      refine hK13 _ _ ?_
      clear hK13; try clear K13
      refine gc_seq fun K14 hK14 => ?_
      refine gc_seq fun K15 hK15 => ?_
      refine gc_region ?_
      refine gl_op rfl rfl rfl (op_pure hT rfl) ?_
      refine gl_nil ?_
      refine hK15 _ _ ?_
      clear hK15; try clear K15
      refine gc_block ?_
      refine gc_loop (fun kk a' w' => ∃ (i : Nat) (m : List UInt8) (A : Option Addr) (c : Nat), Fr 91 a' [(1, .pointer (some ⟨g1, 0, none⟩)), (7, .slice A m.length c), (9, .int .i64 (i : Nat))] ∧ i ≤ p.M.length ∧ kk = p.M.length + 1 - i ∧ m = encP2 p ++ encM (p.M.take i) ∧
        St w.heap.size w w' [.row A c 5 1 (m).length ((m).map uB), .blk g1 29 (propC (C1, p.C.length, C3) (G1, p.G.length, G3) (M1, p.M.length, M3) p)]) (p.M.length + 1) ?_ ?_ ?_
      · intro a' ha; exact ⟨0, encP2 p, A, c, ha.sub ⟨rfl, rfl, rfl, trivial⟩, by omega, by omega, by simp [encM], hS⟩
      · rintro a' w' ⟨i, _, _, _, _, h1, h2, _⟩; omega
      clear hS
      rintro kk a' w1 ⟨i, m, A, c, hF, hi, hk, hm, hS⟩
      refine gc_of hF ?_
      clear hF
      have hml : m.length ≤ 700000 := by
        have h1 := encP2_le hf
        have h2 := encM_le (p.M.take i) fun x hx => hf.M.2 x (List.mem_of_mem_take hx)
        rw [List.length_take] at h2
        rw [hm, List.length_append]
        omega
      refine gc_seq fun K16 hK16 => ?_
      refine gc_seq fun K17 hK17 => ?_
      refine gc_region ?_
      refine gl_op rfl rfl rfl (op_pure hT rfl) ?_
      refine gl_op rfl rfl rfl (op_fieldB 3 rfl Tryd.underlying29 rfl el27 rfl rfl) ?_
      refine gl_op rfl rfl rfl (op_loadB 1 hT hS rfl rfl rfl rfl rfl rfl) ?_
      refine gl_op rfl rfl rfl (op_pure hT rfl) ?_
      refine gl_op rfl rfl rfl (op_pure hT rfl) ?_
      refine gl_nil ?_
      refine hK17 _ _ ?_
      clear hK17; try clear K17
      refine gc_cond rfl rfl (fun c60 => ?_) (fun c60 => ?_)
      · try simp only [decide_eq_true_eq, decide_eq_false_iff_not, Bool.not_eq_true', Bool.not_eq_false', Int.not_lt, Int.not_le, Nat.not_lt, Nat.not_le, Bool.true_eq, Bool.false_eq, reduceCtorEq] at c60
        refine gc_skip ?_
        refine hK16 _ _ ?_
        clear hK16; try clear K16
        refine gc_seq fun K18 hK18 => ?_
        refine gc_block ?_
        refine gc_anyS (hS.blank 0) (by kernel_rfl) rfl fun nq15 hK => ?_
        have hS := hS.dr nq15
        have hiM : i < p.M.length := by omega
        obtain ⟨x, hx⟩ : ∃ x, p.M[i]? = some x := ⟨_, List.getElem?_eq_getElem hiM⟩
        obtain ⟨y, hy⟩ : ∃ y, SM[i]? = some y := ⟨_, List.getElem?_eq_getElem (by omega)⟩
        have hxy := D.rM.rd i y x hy hx
        have hx256 := hf.M.2 x (List.mem_of_getElem? hx)
        have htk : p.M.take (i + 1) = p.M.take i ++ [x] := by rw [List.take_add_one, hx]; rfl
        obtain ⟨ad, hA, hcl⟩ := D.rM.rS.at (none, 0, 0) (i := (i : Int)) (by omega) (by omega)
        have hug : SM.getD ((i : Int)).toNat (none, 0, 0) = y := by rw [Int.toNat_natCast, List.getD_eq_getElem?_getD, hy]; rfl
        rw [hug] at hcl
        obtain ⟨y1, y2, y3⟩ := y
        obtain ⟨hxy1, hxy2, hxy3⟩ := hxy
        simp only at hxy1 hxy2
        subst hxy2
        have hlx := encs_le9 (v := (x.length : Int)) (by omega)
        refine ga_take 0 rfl rfl rfl rfl (by kernel_rfl) (fun _ _ _ _ h => h) hK (fun w1 hS => op_pure hT rfl) ?_
        refine ga_take 1 rfl rfl rfl rfl (by kernel_rfl) (fun _ _ _ _ h => h) hK (fun w1 hS => op_fieldB 3 rfl Tryd.underlying29 rfl el27 rfl rfl) ?_
        refine ga_take 2 rfl rfl rfl rfl (by kernel_rfl) (fun _ _ _ _ h => h) hK (fun w1 hS => op_loadB 1 hT hS rfl rfl rfl rfl rfl rfl) ?_
        refine ga_take 3 rfl rfl rfl rfl (by kernel_rfl) (fun _ _ _ _ h => h) hK (fun w1 hS => op_pure hT rfl) ?_
        refine ga_take 4 rfl rfl rfl rfl (by kernel_rfl) (fun _ _ _ _ h => h) hK (fun w1 hS => op_indexAddr hT rfl rfl el26.cellsOf.1 el26.cellsOf.2 rfl rfl (by omega) (by omega) hA) ?_
        refine ga_take 5 rfl rfl rfl rfl (by kernel_rfl) (fun _ _ _ _ h => h) hK (fun w1 hS => op_load hT rfl rfl rfl rfl (cellOf hS.below hcl)) ?_
        refine ga_take 6 rfl rfl rfl rfl (by kernel_rfl) (fun _ _ _ _ h => h) hK (fun w1 hS => op_pure hT rfl) ?_
        refine ga_take 8 rfl rfl rfl rfl (by kernel_rfl) (fun _ _ _ _ h => h) hK (fun w1 hS => op_fieldB 3 rfl Tryd.underlying29 rfl el27 rfl rfl) ?_
        refine ga_take 9 rfl rfl rfl rfl (by kernel_rfl) (fun _ _ _ _ h => h) hK (fun w1 hS => op_loadB 1 hT hS rfl rfl rfl rfl rfl rfl) ?_
        refine ga_take 10 rfl rfl rfl rfl (by kernel_rfl) (fun _ _ _ _ h => h) hK (fun w1 hS => op_pure hT rfl) ?_
        refine ga_take 11 rfl rfl rfl rfl (by kernel_rfl) (fun _ _ _ _ h => h) hK (fun w1 hS => op_indexAddr hT rfl rfl el26.cellsOf.1 el26.cellsOf.2 rfl rfl (by omega) (by omega) hA) ?_
        refine ga_take 12 rfl rfl rfl rfl (by kernel_rfl) (fun _ _ _ _ h => h) hK (fun w1 hS => op_load hT rfl rfl rfl rfl (cellOf hS.below hcl)) ?_
        refine ga_one 7 (by kernel_rfl) rfl ?_
        refine gl_callf rfl rfl rfl rfl Tryd.func18 rfl rfl rfl (rPutUint_calls A c (m) ((x.length : Int)) _ _ hS (by omega) (by omega)) ?_
        rintro _ w70 ⟨A, c, rfl, hS⟩
        refine ⟨_, rfl, ?_⟩
        refine gl_nil ?_
        refine ga_next ((hS.blank 0).pre 2) fun hK => ?_
        refine ga_one 13 (by kernel_rfl) rfl ?_
        refine gl_callf rfl rfl rfl rfl Tryd.func17 rfl rfl rfl (rPutFloats_calls A c (m ++ encs [(x.length : Int)]) _ _ (x) _ _ hS (fun hS => hxy1.old hS) (by rw [List.length_append]; omega) (hxy3.2)) ?_
        rintro _ w76 ⟨A, c, rfl, hS⟩
        refine ⟨_, rfl, ?_⟩
        refine gl_nil ?_
        refine ga_next ((hS.blank 0).pre 2) fun hK => ?_
        refine ga_take 14 rfl rfl rfl rfl (by kernel_rfl) (fun _ _ _ _ h => h) hK (fun w1 hS => op_pure hT rfl) ?_
        refine ga_done (by kernel_rfl) ?_
        refine hK18 _ _ ?_
        clear hK18; try clear K18
        refine gc_region ?_
        refine gl_op rfl rfl rfl (op_pure hT rfl) ?_
        first | refine gl_fit hT rfl rfl rfl rfl (by omega) ?_ | refine gl_op rfl rfl rfl (op_pure hT rfl) ?_
        refine gl_op rfl rfl rfl (op_pure hT rfl) ?_
        refine gl_nil ?_
        intro a' ha
        exact ⟨i + 1, m ++ encs [(x.length : Int)] ++ encf x, A, c, ha.sub ⟨rfl, rfl, rfl, trivial⟩, by omega, by omega, by rw [hm, htk, encM_snoc, List.append_assoc, List.append_assoc], hS⟩
      · try simp only [decide_eq_true_eq, decide_eq_false_iff_not, Bool.not_eq_true', Bool.not_eq_false', Int.not_lt, Int.not_le, Nat.not_lt, Nat.not_le, Bool.true_eq, Bool.false_eq, reduceCtorEq] at c60
        have hiM : i = p.M.length := by omega
        subst hiM
        rw [List.take_length] at hm
        have hfK := hf.K
        have hfD := hf.D
        have hfS := hf.S
        have hlK := encs_le9 (v := p.K) (by omega)
        have hlD := encs_le9 (v := p.D) (by omega)
        refine gc_exit ?_
        refine hK14 _ _ ?_
        clear hK14; try clear K14
        refine gc_seq fun K19 hK19 => ?_
        refine gc_anyS (hS.blank 0) (by kernel_rfl) rfl fun nq16 hK => ?_
        have hS := hS.dr nq16
        refine ga_take 0 rfl rfl rfl rfl (by kernel_rfl) (fun _ _ _ _ h => h) hK (fun w1 hS => op_pure hT rfl) ?_
        refine ga_take 1 rfl rfl rfl rfl (by kernel_rfl) (fun _ _ _ _ h => h) hK (fun w1 hS => op_fieldB 4 rfl Tryd.underlying29 rfl el3 rfl rfl) ?_
        refine ga_take 2 rfl rfl rfl rfl (by kernel_rfl) (fun _ _ _ _ h => h) hK (fun w1 hS => op_loadB 1 hT hS rfl rfl rfl rfl rfl rfl) ?_
        refine ga_take 4 rfl rfl rfl rfl (by kernel_rfl) (fun _ _ _ _ h => h) hK (fun w1 hS => op_fieldB 5 rfl Tryd.underlying29 rfl el3 rfl rfl) ?_
        refine ga_take 5 rfl rfl rfl rfl (by kernel_rfl) (fun _ _ _ _ h => h) hK (fun w1 hS => op_loadB 1 hT hS rfl rfl rfl rfl rfl rfl) ?_
        refine ga_take 7 rfl rfl rfl rfl (by kernel_rfl) (fun _ _ _ _ h => h) hK (fun w1 hS => op_fieldB 6 rfl Tryd.underlying29 rfl el3 rfl rfl) ?_
        refine ga_take 8 rfl rfl rfl rfl (by kernel_rfl) (fun _ _ _ _ h => h) hK (fun w1 hS => op_loadB 1 hT hS rfl rfl rfl rfl rfl rfl) ?_
        refine ga_one 3 (by kernel_rfl) rfl ?_
        refine gl_callf rfl rfl rfl rfl Tryd.func18 rfl rfl rfl (rPutUint_calls A c (m) (p.K) _ _ hS (by omega) (by omega)) ?_
        rintro _ w80 ⟨A, c, rfl, hS⟩
        refine ⟨_, rfl, ?_⟩
        refine gl_nil ?_
        refine ga_next ((hS.blank 0).pre 2) fun hK => ?_
        refine ga_one 6 (by kernel_rfl) rfl ?_
        refine gl_callf rfl rfl rfl rfl Tryd.func18 rfl rfl rfl (rPutUint_calls A c (m ++ encs [p.K]) (p.D) _ _ hS (by rw [List.length_append]; omega) (by omega)) ?_
        rintro _ w83 ⟨A, c, rfl, hS⟩
        refine ⟨_, rfl, ?_⟩
        refine gl_nil ?_
        refine ga_next ((hS.blank 0).pre 2) fun hK => ?_
        refine ga_one 9 (by kernel_rfl) rfl ?_
        refine gl_callf rfl rfl rfl rfl Tryd.func18 rfl rfl rfl (rPutUint_calls A c (m ++ encs [p.K] ++ encs [p.D]) (p.S) _ _ hS (by simp only [List.length_append]; omega) (by omega)) ?_
        rintro _ w86 ⟨A, c, rfl, hS⟩
        refine ⟨_, rfl, ?_⟩
        have hl3 : m ++ encs [p.K] ++ encs [p.D] ++ encs [p.S] = encP p := by rw [hm, List.append_assoc, List.append_assoc, ← encs_cat, ← encs_cat]; rfl
        rw [hl3] at hS ⊢
        clear hl3 hm
        have hl7 := encP_le hf
        have hev : encPV p = encP p ++ le4 (crcV (encP p)) := by unfold encPV; rw [if_neg (by omega)]
        have h4 : (le4 (crcV (encP p))).length = 4 := rfl
        refine gl_nil ?_
        refine ga_next ((hS.blank 0).pre 2) fun hK => ?_
        refine ga_take 10 rfl rfl rfl rfl (by kernel_rfl) (fun _ _ _ _ h => h) hK (fun w1 hS => op_pure hT rfl) ?_
        refine ga_done (by kernel_rfl) ?_
        refine hK19 _ _ ?_
        clear hK19; try clear K19
        refine gc_seq fun K20 hK20 => ?_
        refine gc_region ?_
        refine gl_op rfl rfl rfl (op_pure hT rfl) ?_
        refine gl_op rfl rfl rfl (op_pure hT rfl) ?_
        refine gl_callf rfl rfl rfl rfl Tryd.func19 rfl rfl rfl (Sealed_calls A c (encP p) _ (hS.rdE (i := 0) rfl) (by omega)) ?_
        rintro _ w89 ⟨A89, c89, rfl, hr89, hb89⟩
        refine ⟨_, rfl, ?_⟩
        have hS := hS.addRow hb89 hr89
        refine gl_append 0 hT hS el5 (hS.rd (i := 2) rfl) (allOne_map (fun _ => rfl) _) rfl rfl rfl rfl rfl rfl rfl rfl (by first | omega | (simp; omega)) (by first | omega | (simp; omega)) fun A90 c90 w90 hS => ?_
        refine gl_op rfl rfl rfl (op_pure hT rfl) ?_
        refine gl_op rfl rfl rfl (op_pure hT rfl) ?_
        refine gl_op rfl rfl rfl (op_pure hT rfl) ?_
        refine gl_nil ?_
        refine hK20 _ _ ?_
        clear hK20; try clear K20
        refine gc_ret ?_
        try simp only [x_then_ret, x_block_ret]
        refine gk_ret3 rfl rfl rfl rfl ?_
        rw [hev, hfz, hf.z]
        refine ⟨A90, c90, ?_, ?_⟩
        · rw [List.length_append]
        · rw [List.length_append, List.map_append]
          exact (hS.erase 1).erase 1
end Go.Proofs.YtnomlloaahoceaaDoor

