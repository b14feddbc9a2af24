/- Contracts of package rows, second part: windows. No condition. -/
import Derived.Test.YtkfhablonnjgeaaRo1
namespace Go.Proofs.Ytkfhablonnjgeaa
open Go.RowKit
set_option linter.unusedVariables false
set_option linter.unusedSimpArgs false
theorem se_len (x : Se) : (seC x).length = 5 := rfl
theorem se_flat_one (l : List Se) : allOne (l.map seC).flatten = true := by
  induction l with
  | nil => rfl
  | cons x l ih => simp only [List.map_cons, List.flatten_cons, seC, List.cons_append, List.nil_append, allOne, oneCells, Bool.true_and]; exact ih
/-- What a window asks of its layer and shape. -/
structure WinOk (L : Ly) (s : Sh) : Prop where
  win : winV L.k
  kh : 1 ≤ L.kh ∧ L.kh ≤ 16
  kw : 1 ≤ L.kw ∧ L.kw ≤ 16
  sh : 1 ≤ L.sh ∧ L.sh ≤ 16
  sw : 1 ≤ L.sw ∧ L.sw ≤ 16
  ph : 0 ≤ L.ph ∧ L.ph ≤ 15
  pw : 0 ≤ L.pw ∧ L.pw ≤ 15
  c : 1 ≤ s.c ∧ s.c ≤ 256
  h : 1 ≤ s.h ∧ s.h ≤ 256
  w : 1 ≤ s.w ∧ s.w ≤ 256
theorem spot_bd {s : Sh} {i : Int} (h1 : 1 ≤ s.h ∧ s.h ≤ 256) (h2 : 1 ≤ s.w ∧ s.w ≤ 256) (hi : 0 ≤ i) (hc : i < s.c * s.h * s.w) (h3 : 1 ≤ s.c ∧ s.c ≤ 256) : (0 ≤ (spotV s i).c ∧ (spotV s i).c < s.c) ∧ (0 ≤ (spotV s i).y ∧ (spotV s i).y < s.h) ∧ (0 ≤ (spotV s i).x ∧ (spotV s i).x < s.w) := by
  have b1 := mul_bd (a := s.h) (b := s.w) (A := 256) (B := 256) (by omega) (by omega) (by omega) (by omega)
  refine ⟨⟨Int.ediv_nonneg hi (by omega), ?_⟩, ⟨Int.emod_nonneg _ (by omega), Int.emod_lt_of_pos _ (by omega)⟩, ⟨Int.emod_nonneg _ (by omega), Int.emod_lt_of_pos _ (by omega)⟩⟩
  exact Int.ediv_lt_of_lt_mul (by omega) (by rw [← Int.mul_assoc]; exact hc)
set_option maxHeartbeats 4000000 in
set_option maxRecDepth 100000 in
theorem window_calls (L : Ly) (s out : Sh) (i : Int) (w : World) (hW : WinOk L s) (ho1 : 1 ≤ out.c ∧ out.c ≤ 256) (ho2 : 1 ≤ out.h ∧ out.h ≤ 256) (ho3 : 1 ≤ out.w ∧ out.w ≤ 256) (hi : 0 ≤ i ∧ i < out.c * out.h * out.w) (hos : out.c * out.h * out.w ≤ 256) :
    Calls Try.prog 30 ⟨[.agg ⟨lyC L⟩, .agg ⟨shC s⟩, .agg ⟨shC out⟩, .int .i64 i]⟩ w fun e w' => ∃ A c, e = .returned (.slice A (winV_ L s out i).length c) ∧ Owns w' w.heap.size A c 75 5 (winV_ L s out i).length ((winV_ L s out i).map seC).flatten ∧ Below w.heap.size w w' := by
  have hsp := spot_bd ho2 ho3 hi.1 hi.2 ho1
  have b1 := mul_bd (a := out.c) (b := out.h) (A := 256) (B := 256) (by omega) (by omega) (by omega) (by omega)
  have b2 := mul_bd (a := out.c * out.h) (b := out.w) (A := 65536) (B := 256) (by omega) (by omega) (by omega) (by omega)
  have hkh := hW.kh
  have hkw := hW.kw
  have hsh := hW.sh
  have hsw := hW.sw
  have hph := hW.ph
  have hpw := hW.pw
  have hc := hW.c
  have hh := hW.h
  have hw := hW.w
  obtain ⟨o, hoe⟩ : ∃ o, o = spotV out i := ⟨_, rfl⟩
  obtain ⟨F, hF0⟩ : ∃ F : Nat, F = if L.k = 2 then 0 else o.c.toNat := ⟨_, rfl⟩
  obtain ⟨M, hM0⟩ : ∃ M : Nat, M = if L.k = 2 then s.c.toNat else 1 := ⟨_, rfl⟩
  have hwin : winV_ L s out i = winC L s o F M := by
    unfold winV_
    rw [hF0, hM0, hoe]
    split <;> rfl
  have hFM : F + M ≤ 512 ∧ M ≤ 256 := by
    rw [hF0, hM0, hoe]
    split <;> omega
  rw [hwin]
  have bo1 := mul_bd0 (a := o.y) (b := L.sh) (A := 256) (B := 16) (by rw [hoe]; omega) (by rw [hoe]; omega) (by omega) (by omega)
  have bo2 := mul_bd0 (a := o.x) (b := L.sw) (A := 256) (B := 16) (by rw [hoe]; omega) (by rw [hoe]; omega) (by omega) (by omega)
  refine gc_enter (N := 100) Try.func30 rfl rfl rfl [(0, _), (1, _), (2, _), (3, _)] rfl ?_
  have hS := St.start w
  refine gc_seq fun K1 hK1 => ?_
  refine gc_region ?_
  refine gl_box hS rfl rfl rfl rfl rfl fun g4 w4 hS => ?_
  refine gl_box hS rfl rfl rfl rfl rfl fun g5 w5 hS => ?_
  refine gl_box hS rfl rfl rfl rfl rfl fun g6 w6 hS => ?_
  refine gl_op rfl rfl rfl (op_pure hT rfl) ?_
  refine gl_nil ?_
  refine hK1 _ _ ?_
  clear hK1; try clear K1
  refine gc_seq fun K2 hK2 => ?_
  refine gc_region ?_
  refine gl_op rfl rfl rfl (op_loadG 2 Try.underlying27 rfl el27 hS rfl rfl rfl rfl rfl) ?_
  refine gl_op rfl rfl rfl (op_pure hT rfl) ?_
  refine gl_callf rfl rfl rfl rfl Try.func26 rfl rfl rfl (spot_calls out i _ ho2 ho3 ⟨by omega, by omega⟩) ?_
  rintro _ w19 ⟨rfl, hb19⟩
  refine ⟨_, rfl, ?_⟩
  have hS := hS.grown hb19
  refine gl_alloc el66 hS rfl rfl rfl rfl fun g9 w9 hS => ?_
  refine gl_storeM 3 hS el66 rfl rfl rfl rfl rfl rfl rfl rfl rfl fun wrows_go_40 hS => ?_
  refine gl_nil ?_
  refine hK2 _ _ ?_
  clear hK2; try clear K2
  refine gc_seq fun K3 hK3 => ?_
  refine gc_anyS hS (by kernel_rfl) rfl fun nq2 hK => ?_
  have hS := hS.dr nq2
  refine ga_take 0 rfl rfl rfl rfl (by kernel_rfl) (fun _ _ _ _ _ h => h) hK (fun w1 hS => op_ixA (j := 0) rfl Try.underlying66 el3 rfl rfl (by decide) (by decide) rfl) ?_
  refine ga_take 1 rfl rfl rfl rfl (by kernel_rfl) (fun _ _ _ _ _ h => h) hK (fun w1 hS => op_loadB 3 hT hS rfl rfl rfl rfl rfl rfl) ?_
  refine ga_take 2 rfl rfl rfl rfl (by kernel_rfl) (fun _ _ _ _ _ h => h) hK (fun w1 hS => op_ixA (j := 0) rfl Try.underlying66 el3 rfl rfl (by decide) (by decide) rfl) ?_
  refine ga_take 3 rfl rfl rfl rfl (by kernel_rfl) (fun _ _ _ _ _ h => h) hK (fun w1 hS => op_loadB 3 hT hS rfl rfl rfl rfl rfl rfl) ?_
  refine ga_take 4 rfl rfl rfl rfl (by kernel_rfl) (fun _ _ _ _ _ h => h) hK (fun w1 hS => (by first | exact op_fit hT rfl (by omega) | exact op_pure hT rfl)) ?_
  refine ga_take 5 rfl rfl rfl rfl (by kernel_rfl) (fun _ _ _ _ _ h => h) hK (fun w1 hS => op_pure hT rfl) ?_
  refine ga_take 6 rfl rfl rfl rfl (by kernel_rfl) (fun _ _ _ _ _ h => h) hK (fun w1 hS => op_pure hT rfl) ?_
  refine ga_done (by kernel_rfl) ?_
  refine hK3 _ _ ?_
  clear hK3; try clear K3
  refine gc_cut (fun a w' => Fr 100 a [(4, .pointer (some ⟨g4, 0, none⟩)), (5, .pointer (some ⟨g5, 0, none⟩)), (9, .pointer (some ⟨g9, 0, none⟩)), (10, .int .i64 (F : Nat)), (11, .int .i64 ((F + M : Nat) : Int))] ∧ St w.heap.size w w' [.blk g4 32 (lyC L), .blk g5 27 (shC s), .blk g6 27 (shC out), .blk g9 66 (spC o)]) ?_ ?_
  · skip
    refine gc_seq fun K4 hK4 => ?_
    refine gc_region ?_
    refine gl_op rfl rfl rfl (op_fieldB 0 rfl Try.underlying32 rfl el3 rfl rfl) ?_
    refine gl_op rfl rfl rfl (op_loadB 0 hT hS rfl rfl rfl rfl rfl rfl) ?_
    refine gl_op rfl rfl rfl (op_pure hT rfl) ?_
    refine gl_nil ?_
    refine hK4 _ _ ?_
    clear hK4; try clear K4
    refine gc_cond rfl rfl (fun c27 => ?_) (fun c27 => ?_)
    · try simp only [decide_eq_true_eq, decide_eq_false_iff_not, Bool.not_eq_true', Bool.not_eq_false', Int.not_lt, Int.not_le, Nat.not_lt, Nat.not_le, Bool.true_eq, Bool.false_eq, reduceCtorEq] at c27
      refine gc_anyS hS (by kernel_rfl) rfl fun nq4 hK => ?_
      have hS := hS.dr nq4
      refine ga_take 0 rfl rfl rfl rfl (by kernel_rfl) (fun _ _ _ _ _ h => h) hK (fun w1 hS => op_fieldB 0 rfl Try.underlying27 rfl el3 rfl rfl) ?_
      refine ga_take 1 rfl rfl rfl rfl (by kernel_rfl) (fun _ _ _ _ _ h => h) hK (fun w1 hS => op_loadB 1 hT hS rfl rfl rfl rfl rfl rfl) ?_
      refine ga_take 2 rfl rfl rfl rfl (by kernel_rfl) (fun _ _ _ _ _ h => h) hK (fun w1 hS => op_pure hT rfl) ?_
      refine ga_take 3 rfl rfl rfl rfl (by kernel_rfl) (fun _ _ _ _ _ h => h) hK (fun w1 hS => op_pure hT rfl) ?_
      refine ga_done (by kernel_rfl) ?_
      intro a ha
      first
        | (refine ⟨ha.sub ⟨rfl, rfl, rfl, ?_, ?_, trivial⟩, by rw [hoe]; exact hS⟩
           · rw [hF0, if_pos c27]; rfl
           · rw [hF0, hM0, if_pos c27, if_pos c27]; show some (Value.int .i64 s.c) = _; congr 2; omega)
        | (refine ⟨ha.sub ⟨rfl, rfl, rfl, ?_, ?_, trivial⟩, by rw [hoe]; exact hS⟩
           · rw [hF0, if_neg c27, hoe]; show some (Value.int .i64 (spotV out i).c) = _; congr 2; omega
           · rw [hF0, hM0, if_neg c27, if_neg c27, hoe]; show some (Value.int .i64 ((spotV out i).c + 1)) = _; congr 2; omega)
    · try simp only [decide_eq_true_eq, decide_eq_false_iff_not, Bool.not_eq_true', Bool.not_eq_false', Int.not_lt, Int.not_le, Nat.not_lt, Nat.not_le, Bool.true_eq, Bool.false_eq, reduceCtorEq] at c27
      refine gc_skip ?_
      intro a ha
      first
        | (refine ⟨ha.sub ⟨rfl, rfl, rfl, ?_, ?_, trivial⟩, by rw [hoe]; exact hS⟩
           · rw [hF0, if_pos c27]; rfl
           · rw [hF0, hM0, if_pos c27, if_pos c27]; show some (Value.int .i64 s.c) = _; congr 2; omega)
        | (refine ⟨ha.sub ⟨rfl, rfl, rfl, ?_, ?_, trivial⟩, by rw [hoe]; exact hS⟩
           · rw [hF0, if_neg c27, hoe]; show some (Value.int .i64 (spotV out i).c) = _; congr 2; omega
           · rw [hF0, hM0, if_neg c27, if_neg c27, hoe]; show some (Value.int .i64 ((spotV out i).c + 1)) = _; congr 2; omega)
  rintro a w1 ⟨hF, hS⟩
  refine gc_of hF ?_
  clear hF
  refine gc_seq fun K5 hK5 => ?_
  refine gc_region ?_
  refine gl_op rfl rfl rfl (op_pure hT rfl) ?_
  refine gl_nil ?_
  refine hK5 _ _ ?_
  clear hK5; try clear K5
  refine gc_seq fun K6 hK6 => ?_
  refine gc_seq fun K7 hK7 => ?_
  refine gc_region ?_
  refine gl_op rfl rfl rfl (op_pure hT rfl) ?_
  refine gl_op rfl rfl rfl (op_pure hT rfl) ?_
  refine gl_nil ?_
  refine hK7 _ _ ?_
  clear hK7; try clear K7
  refine gc_block ?_
  have hS := hS.nil 75 5
  refine gc_loop (fun k a w' => ∃ (m : Nat) (A : Option Addr) (c : Nat), Fr 100 a [(4, .pointer (some ⟨g4, 0, none⟩)), (5, .pointer (some ⟨g5, 0, none⟩)), (9, .pointer (some ⟨g9, 0, none⟩)), (11, .int .i64 ((F + M : Nat) : Int)), (12, .slice A (winC L s o F m).length c), (13, .int .i64 ((F + m : Nat) : Int))] ∧ m ≤ M ∧ k = M + 1 - m ∧
    St w.heap.size w w' [.blk g4 32 (lyC L), .blk g5 27 (shC s), .blk g6 27 (shC out), .blk g9 66 (spC o), .row A c 75 5 (winC L s o F m).length ((winC L s o F m).map seC).flatten]) (M + 1) ?_ ?_ ?_
  · intro a ha; exact ⟨0, none, 0, ha.sub ⟨rfl, rfl, rfl, rfl, rfl, rfl, trivial⟩, by omega, by omega, hS⟩
  · rintro a w' ⟨m, _, _, _, h1, h2, _⟩; omega
  rintro k a w1 ⟨m, A, c, hF, hm, hk, hS⟩
  refine gc_of hF ?_
  clear hF
  refine gc_seq fun K8 hK8 => ?_
  refine gc_seq fun K9 hK9 => ?_
  refine gc_region ?_
  refine gl_op rfl rfl rfl (op_pure hT rfl) ?_
  refine gl_op rfl rfl rfl (op_pure hT rfl) ?_
  refine gl_op rfl rfl rfl (op_pure hT rfl) ?_
  refine gl_nil ?_
  refine hK9 _ _ ?_
  clear hK9; try clear K9
  refine gc_cond rfl rfl (fun c33 => ?_) (fun c33 => ?_)
  · try simp only [decide_eq_true_eq, decide_eq_false_iff_not, Bool.not_eq_true', Bool.not_eq_false', Int.not_lt, Int.not_le, Nat.not_lt, Nat.not_le, Bool.true_eq, Bool.false_eq, reduceCtorEq] at c33
    refine gc_skip ?_
    refine hK8 _ _ ?_
    clear hK8; try clear K8
    refine gc_seq fun K10 hK10 => ?_
    refine gc_block ?_
    refine gc_seq fun K11 hK11 => ?_
    refine gc_region ?_
    refine gl_op rfl rfl rfl (op_fieldB 2 rfl Try.underlying32 rfl el3 rfl rfl) ?_
    refine gl_op rfl rfl rfl (op_loadB 0 hT hS rfl rfl rfl rfl rfl rfl) ?_
    refine gl_op rfl rfl rfl (op_pure hT rfl) ?_
    refine gl_nil ?_
    refine hK11 _ _ ?_
    clear hK11; try clear K11
    refine gc_block ?_
    refine gc_loop (fun k a w' => ∃ (p : Nat) (A : Option Addr) (c : Nat), Fr 100 a [(4, .pointer (some ⟨g4, 0, none⟩)), (5, .pointer (some ⟨g5, 0, none⟩)), (9, .pointer (some ⟨g9, 0, none⟩)), (11, .int .i64 ((F + M : Nat) : Int)), (12, .slice A (winC L s o F m ++ winP L s o (F + m) p).length c), (13, .int .i64 ((F + m : Nat) : Int)), (37, .int .i64 L.kh), (38, .int .i64 (p : Nat))] ∧ p ≤ L.kh.toNat ∧ k = L.kh.toNat + 1 - p ∧
      St w.heap.size w w' [.blk g4 32 (lyC L), .blk g5 27 (shC s), .blk g6 27 (shC out), .blk g9 66 (spC o), .row A c 75 5 (winC L s o F m ++ winP L s o (F + m) p).length ((winC L s o F m ++ winP L s o (F + m) p).map seC).flatten]) (L.kh.toNat + 1) ?_ ?_ ?_
    · intro a ha
      have e0 : winC L s o F m ++ winP L s o (F + m) 0 = winC L s o F m := by simp [winP]
      refine ⟨0, A, c, ?_, by omega, by omega, ?_⟩
      · rw [e0]; exact ha.sub ⟨rfl, rfl, rfl, rfl, rfl, rfl, rfl, rfl, trivial⟩
      · rw [e0]; exact hS
    · rintro a w' ⟨p, _, _, _, h1, h2, _⟩; omega
    rintro k a w1 ⟨p, A, c, hF, hp, hk2, hS⟩
    refine gc_of hF ?_
    clear hF
    refine gc_seq fun K12 hK12 => ?_
    refine gc_region ?_
    refine gl_op rfl rfl rfl (op_pure hT rfl) ?_
    refine gl_nil ?_
    refine hK12 _ _ ?_
    clear hK12; try clear K12
    refine gc_seq fun K13 hK13 => ?_
    refine gc_cond rfl rfl (fun c39 => ?_) (fun c39 => ?_)
    · try simp only [decide_eq_true_eq, decide_eq_false_iff_not, Bool.not_eq_true', Bool.not_eq_false', Int.not_lt, Int.not_le, Nat.not_lt, Nat.not_le, Bool.true_eq, Bool.false_eq, reduceCtorEq] at c39
      refine gc_skip ?_
      refine hK13 _ _ ?_
      clear hK13; try clear K13
      refine gc_seq fun K14 hK14 => ?_
      refine gc_block ?_
      refine gc_seq fun K15 hK15 => ?_
      refine gc_region ?_
      refine gl_op rfl rfl rfl (op_pure hT rfl) ?_
      refine gl_op rfl rfl rfl (op_pure hT rfl) ?_
      refine gl_nil ?_
      refine hK15 _ _ ?_
      clear hK15; try clear K15
      refine gc_seq fun K16 hK16 => ?_
      refine gc_region ?_
      refine gl_op rfl rfl rfl (op_fieldB 3 rfl Try.underlying32 rfl el3 rfl rfl) ?_
      refine gl_op rfl rfl rfl (op_loadB 0 hT hS rfl rfl rfl rfl rfl rfl) ?_
      refine gl_op rfl rfl rfl (op_pure hT rfl) ?_
      refine gl_nil ?_
      refine hK16 _ _ ?_
      clear hK16; try clear K16
      refine gc_block ?_
      refine gc_loop (fun k a w' => ∃ (q : Nat) (A : Option Addr) (c : Nat), Fr 100 a [(4, .pointer (some ⟨g4, 0, none⟩)), (5, .pointer (some ⟨g5, 0, none⟩)), (9, .pointer (some ⟨g9, 0, none⟩)), (11, .int .i64 ((F + M : Nat) : Int)), (12, .slice A (winC L s o F m ++ winP L s o (F + m) p ++ winQ L s o (F + m) p q).length c), (13, .int .i64 ((F + m : Nat) : Int)), (14, .int .i64 (p : Nat)), (37, .int .i64 L.kh), (38, .int .i64 (p : Nat)), (42, .int .i64 L.kw), (43, .int .i64 (q : Nat))] ∧ q ≤ L.kw.toNat ∧ k = L.kw.toNat + 1 - q ∧
        St w.heap.size w w' [.blk g4 32 (lyC L), .blk g5 27 (shC s), .blk g6 27 (shC out), .blk g9 66 (spC o), .row A c 75 5 (winC L s o F m ++ winP L s o (F + m) p ++ winQ L s o (F + m) p q).length ((winC L s o F m ++ winP L s o (F + m) p ++ winQ L s o (F + m) p q).map seC).flatten]) (L.kw.toNat + 1) ?_ ?_ ?_
      · intro a ha
        have e0 : winC L s o F m ++ winP L s o (F + m) p ++ winQ L s o (F + m) p 0 = winC L s o F m ++ winP L s o (F + m) p := by simp [winQ]
        refine ⟨0, A, c, ?_, by omega, by omega, ?_⟩
        · rw [e0]; exact ha.sub ⟨rfl, rfl, rfl, rfl, rfl, rfl, rfl, rfl, rfl, rfl, rfl, trivial⟩
        · rw [e0]; exact hS
      · rintro a w' ⟨q, _, _, _, h1, h2, _⟩; omega
      rintro k a w1 ⟨q, A, c, hF, hq, hk3, hS⟩
      refine gc_of hF ?_
      clear hF
      have hl1 := winC_le L s o F m
      have hl2 := winP_le L s o (F + m) p
      have hl3 := winQ_le L s o (F + m) p q
      have hm1 : m * (L.kh.toNat * L.kw.toNat) ≤ 256 * (16 * 16) := Nat.mul_le_mul (by omega) (Nat.mul_le_mul (by omega) (by omega))
      have hm2 : p * L.kw.toNat ≤ 16 * 16 := Nat.mul_le_mul (by omega) (by omega)
      have hlen : (winC L s o F m ++ winP L s o (F + m) p ++ winQ L s o (F + m) p q).length ≤ 100000 := by simp only [List.length_append]; omega
      refine gc_seq fun K17 hK17 => ?_
      refine gc_region ?_
      refine gl_op rfl rfl rfl (op_pure hT rfl) ?_
      refine gl_nil ?_
      refine hK17 _ _ ?_
      clear hK17; try clear K17
      refine gc_seq fun K18 hK18 => ?_
      refine gc_cond rfl rfl (fun c44 => ?_) (fun c44 => ?_)
      · try simp only [decide_eq_true_eq, decide_eq_false_iff_not, Bool.not_eq_true', Bool.not_eq_false', Int.not_lt, Int.not_le, Nat.not_lt, Nat.not_le, Bool.true_eq, Bool.false_eq, reduceCtorEq] at c44
        refine gc_skip ?_
        refine hK18 _ _ ?_
        clear hK18; try clear K18
        refine gc_seq fun K19 hK19 => ?_
        refine gc_block ?_
        refine gc_seq fun K20 hK20 => ?_
        refine gc_region ?_
        refine gl_op rfl rfl rfl (op_pure hT rfl) ?_
        refine gl_op rfl rfl rfl (op_pure hT rfl) ?_
        refine gl_nil ?_
        refine hK20 _ _ ?_
        clear hK20; try clear K20
        refine gc_seq fun K21 hK21 => ?_
        refine gc_region ?_
        refine gl_op rfl rfl rfl (op_pure hT rfl) ?_
        refine gl_op rfl rfl rfl (op_ixA (j := 1) rfl Try.underlying66 el3 rfl rfl (by decide) (by decide) rfl) ?_
        refine gl_op rfl rfl rfl (op_loadB 3 hT hS rfl rfl rfl rfl rfl rfl) ?_
        refine gl_op rfl rfl rfl (op_fieldB 4 rfl Try.underlying32 rfl el3 rfl rfl) ?_
        refine gl_op rfl rfl rfl (op_loadB 0 hT hS rfl rfl rfl rfl rfl rfl) ?_
        first | refine gl_fit hT rfl rfl rfl rfl (by omega) ?_ | refine gl_op rfl rfl rfl (op_pure hT rfl) ?_
        refine gl_op rfl rfl rfl (op_fieldB 6 rfl Try.underlying32 rfl el3 rfl rfl) ?_
        refine gl_op rfl rfl rfl (op_loadB 0 hT hS rfl rfl rfl rfl rfl rfl) ?_
        first | refine gl_fit hT rfl rfl rfl rfl (by omega) ?_ | refine gl_op rfl rfl rfl (op_pure hT rfl) ?_
        refine gl_op rfl rfl rfl (op_pure hT rfl) ?_
        first | refine gl_fit hT rfl rfl rfl rfl (by omega) ?_ | refine gl_op rfl rfl rfl (op_pure hT rfl) ?_
        refine gl_op rfl rfl rfl (op_ixA (j := 2) rfl Try.underlying66 el3 rfl rfl (by decide) (by decide) rfl) ?_
        refine gl_op rfl rfl rfl (op_loadB 3 hT hS rfl rfl rfl rfl rfl rfl) ?_
        refine gl_op rfl rfl rfl (op_fieldB 5 rfl Try.underlying32 rfl el3 rfl rfl) ?_
        refine gl_op rfl rfl rfl (op_loadB 0 hT hS rfl rfl rfl rfl rfl rfl) ?_
        first | refine gl_fit hT rfl rfl rfl rfl (by omega) ?_ | refine gl_op rfl rfl rfl (op_pure hT rfl) ?_
        refine gl_op rfl rfl rfl (op_fieldB 7 rfl Try.underlying32 rfl el3 rfl rfl) ?_
        refine gl_op rfl rfl rfl (op_loadB 0 hT hS rfl rfl rfl rfl rfl rfl) ?_
        first | refine gl_fit hT rfl rfl rfl rfl (by omega) ?_ | refine gl_op rfl rfl rfl (op_pure hT rfl) ?_
        refine gl_op rfl rfl rfl (op_pure hT rfl) ?_
        first | refine gl_fit hT rfl rfl rfl rfl (by omega) ?_ | refine gl_op rfl rfl rfl (op_pure hT rfl) ?_
        refine gl_op rfl rfl rfl (op_buildG rfl plan66 rfl rfl) ?_
        refine gl_alloc el66 hS rfl rfl rfl rfl fun g16 w16 hS => ?_
        refine gl_storeM 5 hS el66 rfl rfl rfl rfl rfl rfl rfl rfl rfl fun wrows_go_49 hS => ?_
        refine gl_nil ?_
        refine hK21 _ _ ?_
        clear hK21; try clear K21
        refine gc_seq fun K22 hK22 => ?_
        refine gc_region ?_
        refine gl_op rfl rfl rfl (op_ixA (j := 1) rfl Try.underlying66 el3 rfl rfl (by decide) (by decide) rfl) ?_
        refine gl_op rfl rfl rfl (op_loadB 5 hT hS rfl rfl rfl rfl rfl rfl) ?_
        refine gl_op rfl rfl rfl (op_pure hT rfl) ?_
        refine gl_op rfl rfl rfl (op_pure hT rfl) ?_
        refine gl_split (t := 71) rfl (fun c71 => ?_) (fun c71 => ?_)
        · try simp only [decide_eq_true_eq, decide_eq_false_iff_not, Bool.not_eq_true', Bool.not_eq_false', Int.not_lt, Int.not_le, Nat.not_lt, Nat.not_le, Bool.true_eq, Bool.false_eq, reduceCtorEq] at c71
          refine gl_un rfl rfl rfl rfl ?_
          refine gl_op rfl rfl rfl (op_ixA (j := 1) rfl Try.underlying66 el3 rfl rfl (by decide) (by decide) rfl) ?_
          refine gl_un rfl rfl rfl rfl ?_
          refine gl_op rfl rfl rfl (op_loadB 5 hT hS rfl rfl rfl rfl rfl rfl) ?_
          refine gl_un rfl rfl rfl rfl ?_
          refine gl_op rfl rfl rfl (op_fieldB 1 rfl Try.underlying27 rfl el3 rfl rfl) ?_
          refine gl_un rfl rfl rfl rfl ?_
          refine gl_op rfl rfl rfl (op_loadB 1 hT hS rfl rfl rfl rfl rfl rfl) ?_
          refine gl_un rfl rfl rfl rfl ?_
          refine gl_op rfl rfl rfl (op_pure hT rfl) ?_
          refine gl_op rfl rfl rfl (op_pure hT rfl) ?_
          refine gl_op rfl rfl rfl (op_pure hT rfl) ?_
          refine gl_split (t := 78) rfl (fun c78 => ?_) (fun c78 => ?_)
          · try simp only [decide_eq_true_eq, decide_eq_false_iff_not, Bool.not_eq_true', Bool.not_eq_false', Int.not_lt, Int.not_le, Nat.not_lt, Nat.not_le, Bool.true_eq, Bool.false_eq, reduceCtorEq] at c78
            refine gl_un rfl rfl rfl rfl ?_
            refine gl_op rfl rfl rfl (op_ixA (j := 2) rfl Try.underlying66 el3 rfl rfl (by decide) (by decide) rfl) ?_
            refine gl_un rfl rfl rfl rfl ?_
            refine gl_op rfl rfl rfl (op_loadB 5 hT hS rfl rfl rfl rfl rfl rfl) ?_
            refine gl_un rfl rfl rfl rfl ?_
            refine gl_op rfl rfl rfl (op_pure hT rfl) ?_
            refine gl_op rfl rfl rfl (op_pure hT rfl) ?_
            refine gl_op rfl rfl rfl (op_pure hT rfl) ?_
            refine gl_split (t := 83) rfl (fun c83 => ?_) (fun c83 => ?_)
            · try simp only [decide_eq_true_eq, decide_eq_false_iff_not, Bool.not_eq_true', Bool.not_eq_false', Int.not_lt, Int.not_le, Nat.not_lt, Nat.not_le, Bool.true_eq, Bool.false_eq, reduceCtorEq] at c83
              refine gl_un rfl rfl rfl rfl ?_
              refine gl_op rfl rfl rfl (op_ixA (j := 2) rfl Try.underlying66 el3 rfl rfl (by decide) (by decide) rfl) ?_
              refine gl_un rfl rfl rfl rfl ?_
              refine gl_op rfl rfl rfl (op_loadB 5 hT hS rfl rfl rfl rfl rfl rfl) ?_
              refine gl_un rfl rfl rfl rfl ?_
              refine gl_op rfl rfl rfl (op_fieldB 2 rfl Try.underlying27 rfl el3 rfl rfl) ?_
              refine gl_un rfl rfl rfl rfl ?_
              refine gl_op rfl rfl rfl (op_loadB 1 hT hS rfl rfl rfl rfl rfl rfl) ?_
              refine gl_un rfl rfl rfl rfl ?_
              refine gl_op rfl rfl rfl (op_pure hT rfl) ?_
              refine gl_op rfl rfl rfl (op_pure hT rfl) ?_
              refine gl_nil ?_
              refine hK22 _ _ ?_
              clear hK22; try clear K22
              refine gc_cond rfl rfl (fun c89 => ?_) (fun c89 => ?_)
              · try simp only [decide_eq_true_eq, decide_eq_false_iff_not, Bool.not_eq_true', Bool.not_eq_false', Int.not_lt, Int.not_le, Nat.not_lt, Nat.not_le, Bool.true_eq, Bool.false_eq, reduceCtorEq] at c89
                refine gc_region ?_
                refine gl_op rfl rfl rfl (op_pure hT rfl) ?_
                refine gl_op rfl rfl rfl (op_loadG 5 Try.underlying66 rfl el66 hS rfl rfl rfl rfl rfl) ?_
                refine gl_op rfl rfl rfl (op_pure hT rfl) ?_
                refine gl_op rfl rfl rfl (op_pure hT rfl) ?_
                refine gl_op rfl rfl rfl (op_buildG rfl plan75 rfl rfl) ?_
                refine gl_litS hT hS el75 rfl rfl rfl rfl rfl rfl rfl (by decide) fun g95 w95 hS => ?_
                refine gl_append 4 hT hS el75 (hS.rd (i := 6) rfl) rfl rfl rfl rfl rfl rfl rfl rfl rfl (by omega) (by omega) fun A96 c96 w96 hS => ?_
                have hS := hS.pre 5
                refine gl_op rfl rfl rfl (op_pure hT rfl) ?_
                refine gl_nil ?_
                refine hK19 _ _ ?_
                clear hK19; try clear K19
                refine gc_region ?_
                first | refine gl_fit hT rfl rfl rfl rfl (by omega) ?_ | refine gl_op rfl rfl rfl (op_pure hT rfl) ?_
                refine gl_op rfl rfl rfl (op_pure hT rfl) ?_
                refine gl_nil ?_
                intro a ha
                have hS := hS.pre 5
                by_cases hin : 0 ≤ o.y * L.sh - L.ph + p ∧ o.y * L.sh - L.ph + p < s.h ∧ 0 ≤ o.x * L.sw - L.pw + q ∧ o.x * L.sw - L.pw + q < s.w
                · have hx : winX L s o (F + m) p q = [⟨⟨((F + m : Nat) : Int), o.y * L.sh - L.ph + p, o.x * L.sw - L.pw + q⟩, p, q⟩] := by unfold winX; rw [if_pos hin]
                  have e1 : winC L s o F m ++ winP L s o (F + m) p ++ winQ L s o (F + m) p (q + 1) = (winC L s o F m ++ winP L s o (F + m) p ++ winQ L s o (F + m) p q) ++ [⟨⟨((F + m : Nat) : Int), o.y * L.sh - L.ph + p, o.x * L.sw - L.pw + q⟩, p, q⟩] := by rw [winQ_succ, hx, List.append_assoc, List.append_assoc, List.append_assoc]
                  have e2 : (winC L s o F m ++ winP L s o (F + m) p ++ winQ L s o (F + m) p (q + 1)).length = (winC L s o F m ++ winP L s o (F + m) p ++ winQ L s o (F + m) p q).length + 1 := by rw [e1, List.length_append]; rfl
                  first
                    | omega
                    | (refine ⟨q + 1, A96, c96, ?_, by omega, by omega, ?_⟩
                       · rw [e2]; exact ha.sub ⟨rfl, rfl, rfl, rfl, rfl, rfl, rfl, rfl, rfl, rfl, rfl, trivial⟩
                       · rw [e2, e1, List.map_append, List.flatten_append]
                         exact hS)
                · have hx : winX L s o (F + m) p q = [] := by unfold winX; rw [if_neg hin]
                  have e1 : winC L s o F m ++ winP L s o (F + m) p ++ winQ L s o (F + m) p (q + 1) = winC L s o F m ++ winP L s o (F + m) p ++ winQ L s o (F + m) p q := by rw [winQ_succ, hx, List.append_nil]
                  first
                    | omega
                    | (refine ⟨q + 1, A, c, ?_, by omega, by omega, ?_⟩
                       · rw [e1]; exact ha.sub ⟨rfl, rfl, rfl, rfl, rfl, rfl, rfl, rfl, rfl, rfl, rfl, trivial⟩
                       · rw [e1]; exact hS)
              · try simp only [decide_eq_true_eq, decide_eq_false_iff_not, Bool.not_eq_true', Bool.not_eq_false', Int.not_lt, Int.not_le, Nat.not_lt, Nat.not_le, Bool.true_eq, Bool.false_eq, reduceCtorEq] at c89
                refine gc_skip ?_
                refine hK19 _ _ ?_
                clear hK19; try clear K19
                refine gc_region ?_
                first | refine gl_fit hT rfl rfl rfl rfl (by omega) ?_ | refine gl_op rfl rfl rfl (op_pure hT rfl) ?_
                refine gl_op rfl rfl rfl (op_pure hT rfl) ?_
                refine gl_nil ?_
                intro a ha
                have hS := hS.pre 5
                by_cases hin : 0 ≤ o.y * L.sh - L.ph + p ∧ o.y * L.sh - L.ph + p < s.h ∧ 0 ≤ o.x * L.sw - L.pw + q ∧ o.x * L.sw - L.pw + q < s.w
                · have hx : winX L s o (F + m) p q = [⟨⟨((F + m : Nat) : Int), o.y * L.sh - L.ph + p, o.x * L.sw - L.pw + q⟩, p, q⟩] := by unfold winX; rw [if_pos hin]
                  have e1 : winC L s o F m ++ winP L s o (F + m) p ++ winQ L s o (F + m) p (q + 1) = (winC L s o F m ++ winP L s o (F + m) p ++ winQ L s o (F + m) p q) ++ [⟨⟨((F + m : Nat) : Int), o.y * L.sh - L.ph + p, o.x * L.sw - L.pw + q⟩, p, q⟩] := by rw [winQ_succ, hx, List.append_assoc, List.append_assoc, List.append_assoc]
                  have e2 : (winC L s o F m ++ winP L s o (F + m) p ++ winQ L s o (F + m) p (q + 1)).length = (winC L s o F m ++ winP L s o (F + m) p ++ winQ L s o (F + m) p q).length + 1 := by rw [e1, List.length_append]; rfl
                  first
                    | omega
                    | (refine ⟨q + 1, A96, c96, ?_, by omega, by omega, ?_⟩
                       · rw [e2]; exact ha.sub ⟨rfl, rfl, rfl, rfl, rfl, rfl, rfl, rfl, rfl, rfl, rfl, trivial⟩
                       · rw [e2, e1, List.map_append, List.flatten_append]
                         exact hS)
                · have hx : winX L s o (F + m) p q = [] := by unfold winX; rw [if_neg hin]
                  have e1 : winC L s o F m ++ winP L s o (F + m) p ++ winQ L s o (F + m) p (q + 1) = winC L s o F m ++ winP L s o (F + m) p ++ winQ L s o (F + m) p q := by rw [winQ_succ, hx, List.append_nil]
                  first
                    | omega
                    | (refine ⟨q + 1, A, c, ?_, by omega, by omega, ?_⟩
                       · rw [e1]; exact ha.sub ⟨rfl, rfl, rfl, rfl, rfl, rfl, rfl, rfl, rfl, rfl, rfl, trivial⟩
                       · rw [e1]; exact hS)
            · try simp only [decide_eq_true_eq, decide_eq_false_iff_not, Bool.not_eq_true', Bool.not_eq_false', Int.not_lt, Int.not_le, Nat.not_lt, Nat.not_le, Bool.true_eq, Bool.false_eq, reduceCtorEq] at c83
              refine gl_pass rfl rfl rfl rfl rfl rfl ?_
              refine gl_pass rfl rfl rfl rfl rfl rfl ?_
              refine gl_pass rfl rfl rfl rfl rfl rfl ?_
              refine gl_pass rfl rfl rfl rfl rfl rfl ?_
              refine gl_pass rfl rfl rfl rfl rfl rfl ?_
              refine gl_op rfl rfl rfl (op_pure hT rfl) ?_
              refine gl_nil ?_
              refine hK22 _ _ ?_
              clear hK22; try clear K22
              refine gc_cond_f rfl ?_
              refine gc_skip ?_
              refine hK19 _ _ ?_
              clear hK19; try clear K19
              refine gc_region ?_
              first | refine gl_fit hT rfl rfl rfl rfl (by omega) ?_ | refine gl_op rfl rfl rfl (op_pure hT rfl) ?_
              refine gl_op rfl rfl rfl (op_pure hT rfl) ?_
              refine gl_nil ?_
              intro a ha
              have hS := hS.pre 5
              by_cases hin : 0 ≤ o.y * L.sh - L.ph + p ∧ o.y * L.sh - L.ph + p < s.h ∧ 0 ≤ o.x * L.sw - L.pw + q ∧ o.x * L.sw - L.pw + q < s.w
              · have hx : winX L s o (F + m) p q = [⟨⟨((F + m : Nat) : Int), o.y * L.sh - L.ph + p, o.x * L.sw - L.pw + q⟩, p, q⟩] := by unfold winX; rw [if_pos hin]
                have e1 : winC L s o F m ++ winP L s o (F + m) p ++ winQ L s o (F + m) p (q + 1) = (winC L s o F m ++ winP L s o (F + m) p ++ winQ L s o (F + m) p q) ++ [⟨⟨((F + m : Nat) : Int), o.y * L.sh - L.ph + p, o.x * L.sw - L.pw + q⟩, p, q⟩] := by rw [winQ_succ, hx, List.append_assoc, List.append_assoc, List.append_assoc]
                have e2 : (winC L s o F m ++ winP L s o (F + m) p ++ winQ L s o (F + m) p (q + 1)).length = (winC L s o F m ++ winP L s o (F + m) p ++ winQ L s o (F + m) p q).length + 1 := by rw [e1, List.length_append]; rfl
                first
                  | omega
                  | (refine ⟨q + 1, A96, c96, ?_, by omega, by omega, ?_⟩
                     · rw [e2]; exact ha.sub ⟨rfl, rfl, rfl, rfl, rfl, rfl, rfl, rfl, rfl, rfl, rfl, trivial⟩
                     · rw [e2, e1, List.map_append, List.flatten_append]
                       exact hS)
              · have hx : winX L s o (F + m) p q = [] := by unfold winX; rw [if_neg hin]
                have e1 : winC L s o F m ++ winP L s o (F + m) p ++ winQ L s o (F + m) p (q + 1) = winC L s o F m ++ winP L s o (F + m) p ++ winQ L s o (F + m) p q := by rw [winQ_succ, hx, List.append_nil]
                first
                  | omega
                  | (refine ⟨q + 1, A, c, ?_, by omega, by omega, ?_⟩
                     · rw [e1]; exact ha.sub ⟨rfl, rfl, rfl, rfl, rfl, rfl, rfl, rfl, rfl, rfl, rfl, trivial⟩
                     · rw [e1]; exact hS)
          · try simp only [decide_eq_true_eq, decide_eq_false_iff_not, Bool.not_eq_true', Bool.not_eq_false', Int.not_lt, Int.not_le, Nat.not_lt, Nat.not_le, Bool.true_eq, Bool.false_eq, reduceCtorEq] at c78
            refine gl_pass rfl rfl rfl rfl rfl rfl ?_
            refine gl_pass rfl rfl rfl rfl rfl rfl ?_
            refine gl_pass rfl rfl rfl rfl rfl rfl ?_
            refine gl_op rfl rfl rfl (op_pure hT rfl) ?_
            refine gl_op rfl rfl rfl (op_pure hT rfl) ?_
            refine gl_pass rfl rfl rfl rfl rfl rfl ?_
            refine gl_pass rfl rfl rfl rfl rfl rfl ?_
            refine gl_pass rfl rfl rfl rfl rfl rfl ?_
            refine gl_pass rfl rfl rfl rfl rfl rfl ?_
            refine gl_pass rfl rfl rfl rfl rfl rfl ?_
            refine gl_op rfl rfl rfl (op_pure hT rfl) ?_
            refine gl_nil ?_
            refine hK22 _ _ ?_
            clear hK22; try clear K22
            refine gc_cond_f rfl ?_
            refine gc_skip ?_
            refine hK19 _ _ ?_
            clear hK19; try clear K19
            refine gc_region ?_
            first | refine gl_fit hT rfl rfl rfl rfl (by omega) ?_ | refine gl_op rfl rfl rfl (op_pure hT rfl) ?_
            refine gl_op rfl rfl rfl (op_pure hT rfl) ?_
            refine gl_nil ?_
            intro a ha
            have hS := hS.pre 5
            by_cases hin : 0 ≤ o.y * L.sh - L.ph + p ∧ o.y * L.sh - L.ph + p < s.h ∧ 0 ≤ o.x * L.sw - L.pw + q ∧ o.x * L.sw - L.pw + q < s.w
            · have hx : winX L s o (F + m) p q = [⟨⟨((F + m : Nat) : Int), o.y * L.sh - L.ph + p, o.x * L.sw - L.pw + q⟩, p, q⟩] := by unfold winX; rw [if_pos hin]
              have e1 : winC L s o F m ++ winP L s o (F + m) p ++ winQ L s o (F + m) p (q + 1) = (winC L s o F m ++ winP L s o (F + m) p ++ winQ L s o (F + m) p q) ++ [⟨⟨((F + m : Nat) : Int), o.y * L.sh - L.ph + p, o.x * L.sw - L.pw + q⟩, p, q⟩] := by rw [winQ_succ, hx, List.append_assoc, List.append_assoc, List.append_assoc]
              have e2 : (winC L s o F m ++ winP L s o (F + m) p ++ winQ L s o (F + m) p (q + 1)).length = (winC L s o F m ++ winP L s o (F + m) p ++ winQ L s o (F + m) p q).length + 1 := by rw [e1, List.length_append]; rfl
              first
                | omega
                | (refine ⟨q + 1, A96, c96, ?_, by omega, by omega, ?_⟩
                   · rw [e2]; exact ha.sub ⟨rfl, rfl, rfl, rfl, rfl, rfl, rfl, rfl, rfl, rfl, rfl, trivial⟩
                   · rw [e2, e1, List.map_append, List.flatten_append]
                     exact hS)
            · have hx : winX L s o (F + m) p q = [] := by unfold winX; rw [if_neg hin]
              have e1 : winC L s o F m ++ winP L s o (F + m) p ++ winQ L s o (F + m) p (q + 1) = winC L s o F m ++ winP L s o (F + m) p ++ winQ L s o (F + m) p q := by rw [winQ_succ, hx, List.append_nil]
              first
                | omega
                | (refine ⟨q + 1, A, c, ?_, by omega, by omega, ?_⟩
                   · rw [e1]; exact ha.sub ⟨rfl, rfl, rfl, rfl, rfl, rfl, rfl, rfl, rfl, rfl, rfl, trivial⟩
                   · rw [e1]; exact hS)
        · try simp only [decide_eq_true_eq, decide_eq_false_iff_not, Bool.not_eq_true', Bool.not_eq_false', Int.not_lt, Int.not_le, Nat.not_lt, Nat.not_le, Bool.true_eq, Bool.false_eq, reduceCtorEq] at c71
          refine gl_pass rfl rfl rfl rfl rfl rfl ?_
          refine gl_pass rfl rfl rfl rfl rfl rfl ?_
          refine gl_pass rfl rfl rfl rfl rfl rfl ?_
          refine gl_pass rfl rfl rfl rfl rfl rfl ?_
          refine gl_pass rfl rfl rfl rfl rfl rfl ?_
          refine gl_op rfl rfl rfl (op_pure hT rfl) ?_
          refine gl_op rfl rfl rfl (op_pure hT rfl) ?_
          refine gl_pass rfl rfl rfl rfl rfl rfl ?_
          refine gl_pass rfl rfl rfl rfl rfl rfl ?_
          refine gl_pass rfl rfl rfl rfl rfl rfl ?_
          refine gl_op rfl rfl rfl (op_pure hT rfl) ?_
          refine gl_op rfl rfl rfl (op_pure hT rfl) ?_
          refine gl_pass rfl rfl rfl rfl rfl rfl ?_
          refine gl_pass rfl rfl rfl rfl rfl rfl ?_
          refine gl_pass rfl rfl rfl rfl rfl rfl ?_
          refine gl_pass rfl rfl rfl rfl rfl rfl ?_
          refine gl_pass rfl rfl rfl rfl rfl rfl ?_
          refine gl_op rfl rfl rfl (op_pure hT rfl) ?_
          refine gl_nil ?_
          refine hK22 _ _ ?_
          clear hK22; try clear K22
          refine gc_cond_f rfl ?_
          refine gc_skip ?_
          refine hK19 _ _ ?_
          clear hK19; try clear K19
          refine gc_region ?_
          first | refine gl_fit hT rfl rfl rfl rfl (by omega) ?_ | refine gl_op rfl rfl rfl (op_pure hT rfl) ?_
          refine gl_op rfl rfl rfl (op_pure hT rfl) ?_
          refine gl_nil ?_
          intro a ha
          have hS := hS.pre 5
          by_cases hin : 0 ≤ o.y * L.sh - L.ph + p ∧ o.y * L.sh - L.ph + p < s.h ∧ 0 ≤ o.x * L.sw - L.pw + q ∧ o.x * L.sw - L.pw + q < s.w
          · have hx : winX L s o (F + m) p q = [⟨⟨((F + m : Nat) : Int), o.y * L.sh - L.ph + p, o.x * L.sw - L.pw + q⟩, p, q⟩] := by unfold winX; rw [if_pos hin]
            have e1 : winC L s o F m ++ winP L s o (F + m) p ++ winQ L s o (F + m) p (q + 1) = (winC L s o F m ++ winP L s o (F + m) p ++ winQ L s o (F + m) p q) ++ [⟨⟨((F + m : Nat) : Int), o.y * L.sh - L.ph + p, o.x * L.sw - L.pw + q⟩, p, q⟩] := by rw [winQ_succ, hx, List.append_assoc, List.append_assoc, List.append_assoc]
            have e2 : (winC L s o F m ++ winP L s o (F + m) p ++ winQ L s o (F + m) p (q + 1)).length = (winC L s o F m ++ winP L s o (F + m) p ++ winQ L s o (F + m) p q).length + 1 := by rw [e1, List.length_append]; rfl
            first
              | omega
              | (refine ⟨q + 1, A96, c96, ?_, by omega, by omega, ?_⟩
                 · rw [e2]; exact ha.sub ⟨rfl, rfl, rfl, rfl, rfl, rfl, rfl, rfl, rfl, rfl, rfl, trivial⟩
                 · rw [e2, e1, List.map_append, List.flatten_append]
                   exact hS)
          · have hx : winX L s o (F + m) p q = [] := by unfold winX; rw [if_neg hin]
            have e1 : winC L s o F m ++ winP L s o (F + m) p ++ winQ L s o (F + m) p (q + 1) = winC L s o F m ++ winP L s o (F + m) p ++ winQ L s o (F + m) p q := by rw [winQ_succ, hx, List.append_nil]
            first
              | omega
              | (refine ⟨q + 1, A, c, ?_, by omega, by omega, ?_⟩
                 · rw [e1]; exact ha.sub ⟨rfl, rfl, rfl, rfl, rfl, rfl, rfl, rfl, rfl, rfl, rfl, trivial⟩
                 · rw [e1]; exact hS)
      · try simp only [decide_eq_true_eq, decide_eq_false_iff_not, Bool.not_eq_true', Bool.not_eq_false', Int.not_lt, Int.not_le, Nat.not_lt, Nat.not_le, Bool.true_eq, Bool.false_eq, reduceCtorEq] at c44
        have hqk : q = L.kw.toNat := by omega
        rw [hqk, List.append_assoc, ← winP_succ] at hS
        rw [hqk, List.append_assoc, ← winP_succ]
        refine gc_exit ?_
        refine hK14 _ _ ?_
        clear hK14; try clear K14
        refine gc_region ?_
        first | refine gl_fit hT rfl rfl rfl rfl (by omega) ?_ | refine gl_op rfl rfl rfl (op_pure hT rfl) ?_
        refine gl_op rfl rfl rfl (op_pure hT rfl) ?_
        refine gl_nil ?_
        intro a ha
        exact ⟨p + 1, A, c, ha.sub ⟨rfl, rfl, rfl, rfl, rfl, rfl, rfl, rfl, trivial⟩, by omega, by omega, hS⟩
    · try simp only [decide_eq_true_eq, decide_eq_false_iff_not, Bool.not_eq_true', Bool.not_eq_false', Int.not_lt, Int.not_le, Nat.not_lt, Nat.not_le, Bool.true_eq, Bool.false_eq, reduceCtorEq] at c39
      have hpk : p = L.kh.toNat := by omega
      rw [hpk, ← winC_succ] at hS
      rw [hpk, ← winC_succ]
      refine gc_exit ?_
      refine hK10 _ _ ?_
      clear hK10; try clear K10
      refine gc_region ?_
      refine gl_op rfl rfl rfl (op_pure hT rfl) ?_
      first | refine gl_fit hT rfl rfl rfl rfl (by omega) ?_ | refine gl_op rfl rfl rfl (op_pure hT rfl) ?_
      refine gl_op rfl rfl rfl (op_pure hT rfl) ?_
      refine gl_nil ?_
      intro a ha
      exact ⟨m + 1, A, c, ha.sub ⟨rfl, rfl, rfl, rfl, rfl, rfl, trivial⟩, by omega, by omega, hS⟩
  · try simp only [decide_eq_true_eq, decide_eq_false_iff_not, Bool.not_eq_true', Bool.not_eq_false', Int.not_lt, Int.not_le, Nat.not_lt, Nat.not_le, Bool.true_eq, Bool.false_eq, reduceCtorEq] at c33
    have hmM : m = M := by omega
    rw [hmM] at hS ⊢
    refine gc_exit ?_
    refine hK6 _ _ ?_
    clear hK6; try clear K6
    refine gc_seq fun K23 hK23 => ?_
    refine gc_region ?_
    refine gl_op rfl rfl rfl (op_pure hT rfl) ?_
    refine gl_op rfl rfl rfl (op_pure hT rfl) ?_
    refine gl_nil ?_
    refine hK23 _ _ ?_
    clear hK23; try clear K23
    refine gc_ret ?_
    try simp only [x_then_ret, x_block_ret]
    refine gk_ret1 rfl rfl ?_
    exact ⟨_, _, rfl, (hS.out (i := 4) rfl).1, hS.below⟩
end Go.Proofs.Ytkfhablonnjgeaa
