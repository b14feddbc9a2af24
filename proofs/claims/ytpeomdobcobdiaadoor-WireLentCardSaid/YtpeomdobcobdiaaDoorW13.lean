/- The contract of the document's ReadFrame. No condition. -/
import Derived.Test.YtpeomdobcobdiaaDoorW12
import Derived.Test.YtpeomdobcobdiaaDoorWT
import Derived.Test.YtpeomdobcobdiaaDoorFlt
namespace Go.Proofs.YtpeomdobcobdiaaDoor
open Go.RowKit
set_option linter.unusedVariables false
set_option linter.unusedSimpArgs false
def leG (l : List UInt8) : Value → World → Prop := fun u w => ∃ A c, u = .slice A l.length c ∧ RdE w All uB A l
theorem leG_stays (l : List UInt8) : Stays (leG l) := fun _ _ _ hb ⟨A, c, h1, h2⟩ => ⟨A, c, h1, h2.grown hb⟩
theorem SealedN_calls (A : Option Addr) (n c : Nat) (l : List UInt8) (w : World) {ok : Nat → Prop} (h1 : RdE w ok uB A l) (hn : n = l.length) (hb : l.length ≤ 4611686018427387904) :
    Calls Tryd.prog 44 ⟨[.slice A n c]⟩ w fun e w' => ∃ v, e = .returned v ∧ Below w.heap.size w w' ∧ (Inf.nd (leG (le4 (crcV l)))).holds v w' := by
  subst hn
  exact (Sealed_calls A c l w h1 hb).mono fun e w' ⟨A', c', h1, h2, h3⟩ => ⟨_, h1, h3, A', c', rfl, h2.rd⟩
theorem wordV_vLE (l : List UInt8) (a : Nat) (h : a + 4 ≤ l.length) : wordV ((l.drop a).take 4) = vLE l a 4 := by
  have hg : ∀ k, k < 4 → ((l.drop a).take 4).getD k 0 = l.getD (a + k) 0 := fun k hk => by
    simp [List.getD_eq_getElem?_getD, List.getElem?_take, hk, List.getElem?_drop]
  unfold wordV
  rw [hg 0 (by decide), hg 1 (by decide), hg 2 (by decide), hg 3 (by decide)]
  simp only [vLE]
  omega
theorem le4_eq (v : Nat) (hv : v < 4294967296) (l : List UInt8) (hl : l.length = 4) : strB (le4 v) = strB l ↔ wordV l = v := by
  constructor
  · intro h; rw [← strB_inj h, wordV_le4 v hv]
  · intro h; rw [← h, le4_wordV l hl]
theorem rReadFrame_calls (A : Option Addr) (c : Nat) (l : List UInt8) (at_ : Int) (w : World) {ok : Nat → Prop} (h1 : RdE w ok uB A l) (hb : l.length ≤ 140737488355328) (hc : l.length ≤ c) (hmin : -9223372036854775808 ≤ at_) :
    Calls Tryd.prog 43 ⟨[.slice A l.length c, .int .i64 at_]⟩ w fun e w' => ∃ A' c', e = .returned (.tuple #[.slice A' (readFrameV l at_).1.length c', .int .i64 (readFrameV l at_).2.1, .int .i64 (readFrameV l at_).2.2]) ∧
      Owns w' w.heap.size A' c' 5 1 (readFrameV l at_).1.length ((readFrameV l at_).1.map uB) ∧ Below w.heap.size w w' := by
  refine gc_enter (N := 85) Tryd.func43 rfl rfl rfl [(0, _), (1, _)] rfl ?_
  have hS := St.start w
  refine gc_seq fun K1 hK1 => ?_
  refine gc_region ?_
  refine gl_op rfl rfl rfl (op_pure hT rfl) ?_
  refine gl_op rfl rfl rfl (op_pure hT rfl) ?_
  refine gl_op rfl rfl rfl (op_pure hT rfl) ?_
  refine gl_nil ?_
  refine hK1 _ _ ?_
  clear hK1; try clear K1
  refine gc_seq fun K2 hK2 => ?_
  refine gc_seq fun K3 hK3 => ?_
  refine gc_region ?_
  refine gl_op rfl rfl rfl (op_pure hT rfl) ?_
  refine gl_op rfl rfl rfl (op_pure hT rfl) ?_
  refine gl_callf rfl rfl rfl rfl Tryd.func52 rfl rfl rfl (outside_calls A c l at_ _) ?_
  rintro _ _ ⟨rfl, n12, rfl⟩
  refine ⟨_, rfl, ?_⟩
  have hS := hS.dr n12
  refine gl_nil ?_
  refine hK3 _ _ ?_
  clear hK3; try clear K3
  refine gc_cond rfl rfl (fun c12 => ?_) (fun c12 => ?_)
  · try simp only [decide_eq_true_eq, decide_eq_false_iff_not, Bool.not_eq_true', Bool.not_eq_false', Int.not_lt, Int.not_le, Nat.not_lt, Nat.not_le, Bool.true_eq, Bool.false_eq, reduceCtorEq] at c12
    refine gc_seq fun K4 hK4 => ?_
    refine gc_region ?_
    refine gl_op rfl rfl rfl (op_pure hT rfl) ?_
    refine gl_op rfl rfl rfl (op_pure hT rfl) ?_
    refine gl_op rfl rfl rfl (op_pure hT rfl) ?_
    refine gl_nil ?_
    refine hK4 _ _ ?_
    clear hK4; try clear K4
    refine gc_ret ?_
    try simp only [x_then_ret, x_block_ret]
    refine gk_ret3 rfl rfl rfl rfl ?_
    have e1 : readFrameV l at_ = ([], 0, 1) := by unfold readFrameV; rw [if_pos (by omega)]
    rw [e1]
    exact ⟨none, 0, rfl, owns_nil, hS.below⟩
  · try simp only [decide_eq_true_eq, decide_eq_false_iff_not, Bool.not_eq_true', Bool.not_eq_false', Int.not_lt, Int.not_le, Nat.not_lt, Nat.not_le, Bool.true_eq, Bool.false_eq, reduceCtorEq] at c12
    refine gc_skip ?_
    refine hK2 _ _ ?_
    clear hK2; try clear K2
    refine gc_seq fun K5 hK5 => ?_
    refine gc_seq fun K6 hK6 => ?_
    refine gc_region ?_
    refine gl_op rfl rfl rfl (op_pure hT rfl) ?_
    refine gl_op rfl rfl rfl (op_pure hT rfl) ?_
    refine gl_op rfl rfl rfl (op_pure hT rfl) ?_
    obtain ⟨m, hmd⟩ : ∃ m, m = l.drop at_.toNat := ⟨_, rfl⟩
    have hml : m.length = l.length - at_.toNat := by rw [hmd, List.length_drop]
    refine gl_fit hT rfl rfl rfl rfl (by omega) ?_
    refine gl_op rfl rfl rfl (op_pure hT rfl) ?_
    refine gl_nil ?_
    refine hK6 _ _ ?_
    clear hK6; try clear K6
    refine gc_cond rfl rfl (fun c17 => ?_) (fun c17 => ?_)
    · try simp only [decide_eq_true_eq, decide_eq_false_iff_not, Bool.not_eq_true', Bool.not_eq_false', Int.not_lt, Int.not_le, Nat.not_lt, Nat.not_le, Bool.true_eq, Bool.false_eq, reduceCtorEq] at c17
      refine gc_seq fun K7 hK7 => ?_
      refine gc_region ?_
      refine gl_op rfl rfl rfl (op_pure hT rfl) ?_
      refine gl_op rfl rfl rfl (op_pure hT rfl) ?_
      refine gl_op rfl rfl rfl (op_pure hT rfl) ?_
      refine gl_nil ?_
      refine hK7 _ _ ?_
      clear hK7; try clear K7
      refine gc_ret ?_
      try simp only [x_then_ret, x_block_ret]
      refine gk_ret3 rfl rfl rfl rfl ?_
      have e1 : readFrameV l at_ = ([], 0, 10) := by unfold readFrameV; rw [if_neg (by omega)]; simp only; rw [if_pos (by rw [← hmd]; omega)]
      rw [e1]
      exact ⟨none, 0, rfl, owns_nil, hS.below⟩
    · try simp only [decide_eq_true_eq, decide_eq_false_iff_not, Bool.not_eq_true', Bool.not_eq_false', Int.not_lt, Int.not_le, Nat.not_lt, Nat.not_le, Bool.true_eq, Bool.false_eq, reduceCtorEq] at c17
      refine gc_skip ?_
      refine hK5 _ _ ?_
      clear hK5; try clear K5
      refine gc_seq fun K8 hK8 => ?_
      refine gc_seq fun K9 hK9 => ?_
      refine gc_grow (e0 := [(0, .slice A l.length c), (1, .int .i64 at_)]) (by kernel_rfl) ⟨rfl, rfl, trivial⟩ (by kernel_rfl) (by kernel_rfl) (by kernel_rfl) ?_
      refine gg_op [] rfl rfl rfl (by kernel_rfl) (fun w1 hw1 => by have hS := hS.grown hw1; exact op_pure hT rfl) ?_
      refine gg_op [] rfl rfl rfl (by kernel_rfl) (fun w1 hw1 => by have hS := hS.grown hw1; exact op_pure hT rfl) ?_
      refine gg_op [] rfl rfl rfl (by kernel_rfl) (fun w1 hw1 => by have hS := hS.grown hw1; exact op_pure hT rfl) ?_
      refine gg_op [20] rfl rfl rfl (by kernel_rfl) (fun w1 hw1 => by have hS := hS.grown hw1; exact op_fit hT rfl (by omega)) ?_
      refine gg_op [18, 19, 21] rfl rfl rfl (by kernel_rfl) (fun w1 hw1 => by have hS := hS.grown hw1; exact op_slice_lh hT el5 rfl rfl rfl rfl rfl (by first | omega | (simp; omega)) (by first | omega | (simp; omega)) (by first | omega | (simp; omega))) ?_
      refine gg_call [22] (.nd (leG (le4 (crcV (m.take 4))))) (leG_stays _) rfl rfl rfl (by kernel_rfl) rfl Tryd.func44 rfl rfl rfl (fun w1 hw1 => ?_) ?_
      · have hS := hS.grown hw1
        exact SealedN_calls _ _ _ (m.take 4) w1 (by rw [hmd]; exact (RdE.drop (h1.old hS) (k := at_.toNat) (cap := c) (by omega) hc).take 4) (by simp; omega) (by simp; omega)
      refine gg_op1 23 [] rfl rfl rfl rfl (by kernel_rfl) (fun w1 u hw1 hu => by
        have hS := hS.grown hw1
        obtain ⟨A2, c2, rfl, hrd⟩ := hu; exact op_b2s hT hrd rfl rfl rfl rfl rfl rfl) ?_
      refine gg_op [] rfl rfl rfl (by kernel_rfl) (fun w1 hw1 => by have hS := hS.grown hw1; exact op_pure hT rfl) ?_
      refine gg_op [] rfl rfl rfl (by kernel_rfl) (fun w1 hw1 => by have hS := hS.grown hw1; exact op_pure hT rfl) ?_
      refine gg_op [26] rfl rfl rfl (by kernel_rfl) (fun w1 hw1 => by have hS := hS.grown hw1; exact op_fit hT rfl (by omega)) ?_
      refine gg_op [] rfl rfl rfl (by kernel_rfl) (fun w1 hw1 => by have hS := hS.grown hw1; exact op_pure hT rfl) ?_
      refine gg_op [28] rfl rfl rfl (by kernel_rfl) (fun w1 hw1 => by have hS := hS.grown hw1; exact op_fit hT rfl (by omega)) ?_
      refine gg_op [25, 27, 29] rfl rfl rfl (by kernel_rfl) (fun w1 hw1 => by have hS := hS.grown hw1; exact op_slice_lh hT el5 rfl rfl rfl rfl rfl (by first | omega | (simp; omega)) (by first | omega | (simp; omega)) (by first | omega | (simp; omega))) ?_
      refine gg_op [30] rfl rfl rfl (by kernel_rfl) (fun w1 hw1 => by have hS := hS.grown hw1; exact op_b2s hT ((RdE.drop (h1.old hS) (k := (at_ + 4).toNat) (cap := c) (by omega) hc).take 4) rfl rfl rfl rfl rfl (by simp; omega)) ?_
      refine gg_op [24, 31] rfl rfl rfl (by kernel_rfl) (fun w1 hw1 => by have hS := hS.grown hw1; exact op_pure hT rfl) ?_
      refine gg_nil [32] fun wr5 hwr5 => ?_
      have hS := hS.grown hwr5
      have e4 : (l.drop (at_ + 4).toNat).take 4 = (m.drop 4).take 4 := by rw [hmd, List.drop_drop]; congr 2; omega
      have hiff := le4_eq (crcV (m.take 4)) (crcV_lt _) ((m.drop 4).take 4) (by simp; omega)
      simp only [e4, hiff]
      refine hK9 _ _ ?_
      clear hK9; try clear K9
      refine gc_cond rfl rfl (fun c32 => ?_) (fun c32 => ?_)
      · try simp only [decide_eq_true_eq, decide_eq_false_iff_not, Bool.not_eq_true', Bool.not_eq_false', Int.not_lt, Int.not_le, Nat.not_lt, Nat.not_le, Bool.true_eq, Bool.false_eq, reduceCtorEq] at c32
        refine gc_seq fun K10 hK10 => ?_
        refine gc_region ?_
        refine gl_op rfl rfl rfl (op_pure hT rfl) ?_
        refine gl_op rfl rfl rfl (op_pure hT rfl) ?_
        refine gl_op rfl rfl rfl (op_pure hT rfl) ?_
        refine gl_nil ?_
        refine hK10 _ _ ?_
        clear hK10; try clear K10
        refine gc_ret ?_
        try simp only [x_then_ret, x_block_ret]
        refine gk_ret3 rfl rfl rfl rfl ?_
        have e1 : readFrameV l at_ = ([], 0, 16) := by unfold readFrameV; rw [if_neg (by omega)]; simp only; rw [← hmd, if_neg (by omega), if_pos (by omega)]
        rw [e1]
        exact ⟨none, 0, rfl, owns_nil, hS.below⟩
      · try simp only [decide_eq_true_eq, decide_eq_false_iff_not, Bool.not_eq_true', Bool.not_eq_false', Int.not_lt, Int.not_le, Nat.not_lt, Nat.not_le, Bool.true_eq, Bool.false_eq, reduceCtorEq] at c32
        refine gc_skip ?_
        refine hK8 _ _ ?_
        clear hK8; try clear K8
        refine gc_seq fun K11 hK11 => ?_
        refine gc_region ?_
        refine gl_op rfl rfl rfl (op_pure hT rfl) ?_
        refine gl_nil ?_
        refine hK11 _ _ ?_
        clear hK11; try clear K11
        refine gc_seq fun K12 hK12 => ?_
        refine gc_seq fun K13 hK13 => ?_
        refine gc_region ?_
        refine gl_op rfl rfl rfl (op_pure hT rfl) ?_
        refine gl_nil ?_
        refine hK13 _ _ ?_
        clear hK13; try clear K13
        refine gc_block ?_
        have hc32 : wordV ((m.drop 4).take 4) = crcV (m.take 4) := by omega
        clear c32
        refine gc_loop (fun k a w' => ∃ (j u : Nat), Fr 85 a [(0, .slice A l.length c), (1, .int .i64 at_), (7, .int .i64 u), (8, .int .i64 (3 - (j : Int)))] ∧ j ≤ 4 ∧ k = 5 - j ∧ u < 256 ^ j ∧ u = vHi l at_.toNat (4 - j) j ∧ St w.heap.size w w' []) 5 ?_ ?_ ?_
        · intro a ha; exact ⟨0, 0, ha.sub ⟨rfl, rfl, rfl, rfl, trivial⟩, by omega, by omega, by decide, rfl, hS⟩
        · rintro a w ⟨j, u, _, h1, h2, _⟩; omega
        rintro k a w1 ⟨j, u, hF, hj, hk, hv, hg, hS⟩
        refine gc_of hF ?_
        have h12 : (256 : Nat) ^ 4 = 4294967296 := by decide
        have hp := pow256_le (i := j) (j := 4) (by omega)
        refine gc_seq fun K14 hK14 => ?_
        refine gc_seq fun K15 hK15 => ?_
        refine gc_region ?_
        refine gl_op rfl rfl rfl (op_pure hT rfl) ?_
        refine gl_op rfl rfl rfl (op_pure hT rfl) ?_
        refine gl_nil ?_
        refine hK15 _ _ ?_
        clear hK15; try clear K15
        refine gc_cond rfl rfl (fun c34 => ?_) (fun c34 => ?_)
        · try simp only [decide_eq_true_eq, decide_eq_false_iff_not, Bool.not_eq_true', Bool.not_eq_false', Int.not_lt, Int.not_le, Nat.not_lt, Nat.not_le, Bool.true_eq, Bool.false_eq, reduceCtorEq] at c34
          refine gc_skip ?_
          refine hK14 _ _ ?_
          clear hK14; try clear K14
          refine gc_seq fun K16 hK16 => ?_
          refine gc_block ?_
          refine gc_region ?_
          refine gl_op rfl rfl rfl (op_pure hT rfl) ?_
          first | refine gl_fit hT rfl rfl rfl rfl (by omega) ?_ | refine gl_op rfl rfl rfl (op_pure hT rfl) ?_
          refine gl_op rfl rfl rfl (op_pure hT rfl) ?_
          refine gl_op rfl rfl rfl (op_pure hT rfl) ?_
          refine gl_op rfl rfl rfl (op_pure hT rfl) ?_
          first | refine gl_fit hT rfl rfl rfl rfl (by omega) ?_ | refine gl_op rfl rfl rfl (op_pure hT rfl) ?_
          refine gl_ix (0 : UInt8) hT (h1.old hS) rfl rfl rfl rfl rfl el5.cellsOf.1 el5.cellsOf.2 rfl (by simp) rfl (by omega) (by first | omega | (simp; omega)) fun p43 hp43 => ?_
          have hp2 := pow256_le (i := j + 1) (j := 4) (by omega)
          have hp3 : 256 ^ (j + 1) = 256 ^ j * 256 := Nat.pow_succ ..
          have hu8 : u * 256 + 255 < 4294967296 := by omega
          have hx : (at_ + (3 - (j : Int))).toNat = at_.toNat + (3 - j) := by omega
          rw [hx] at hp43
          have hb8 := (l.getD (at_.toNat + (3 - j)) 0).toNat_lt
          refine gl_op rfl rfl rfl (op_load hT rfl rfl rfl rfl hp43) ?_
          refine gl_op rfl rfl rfl (op_pure hT rfl) ?_
          refine gl_spell 45 (v := .int .i64 ((l.getD (at_.toNat + (3 - j)) 0).toNat : Nat)) rfl (by rw [wrap_i64 (by omega)]) ?_
          first | refine gl_fit hT rfl rfl rfl rfl (by omega) ?_ | refine gl_op rfl rfl rfl (op_pure hT rfl) ?_
          refine gl_op rfl rfl rfl (op_pure hT rfl) ?_
          refine gl_nil ?_
          refine hK16 _ _ ?_
          clear hK16; try clear K16
          refine gc_region ?_
          refine gl_op rfl rfl rfl (op_pure hT rfl) ?_
          first | refine gl_fit hT rfl rfl rfl rfl (by omega) ?_ | refine gl_op rfl rfl rfl (op_pure hT rfl) ?_
          refine gl_op rfl rfl rfl (op_pure hT rfl) ?_
          refine gl_nil ?_
          intro a ha
          refine ⟨j + 1, u * 256 + (l.getD (at_.toNat + (3 - j)) 0).toNat, ha.sub ⟨rfl, rfl, ?_, ?_, trivial⟩, by omega, by omega, by omega, ?_, hS⟩
          · refine congrArg some (?_ : Value.int .i64 _ = Value.int .i64 _)
            congr 1
          · refine congrArg some (?_ : Value.int .i64 _ = Value.int .i64 _)
            congr 1; omega
          · rw [show 4 - (j + 1) = 3 - j by omega, vHi, show 3 - j + 1 = 4 - j by omega, ← hg]; omega
        · try simp only [decide_eq_true_eq, decide_eq_false_iff_not, Bool.not_eq_true', Bool.not_eq_false', Int.not_lt, Int.not_le, Nat.not_lt, Nat.not_le, Bool.true_eq, Bool.false_eq, reduceCtorEq] at c34
          refine gc_exit ?_
          refine hK12 _ _ ?_
          clear hK12; try clear K12
          refine gc_seq fun K17 hK17 => ?_
          refine gc_seq fun K18 hK18 => ?_
          refine gc_region ?_
          refine gl_op rfl rfl rfl (op_pure hT rfl) ?_
          have hj4 : j = 4 := by omega
          subst hj4
          have hvu : wordV (m.take 4) = u := by
            have := wordV_vLE l at_.toNat (by omega)
            rw [hmd, this, vLE_all, hg]
          refine gl_op rfl rfl rfl (op_pure hT rfl) ?_
          refine gl_nil ?_
          refine hK18 _ _ ?_
          clear hK18; try clear K18
          refine gc_cond rfl rfl (fun c48 => ?_) (fun c48 => ?_)
          · try simp only [decide_eq_true_eq, decide_eq_false_iff_not, Bool.not_eq_true', Bool.not_eq_false', Int.not_lt, Int.not_le, Nat.not_lt, Nat.not_le, Bool.true_eq, Bool.false_eq, reduceCtorEq] at c48
            refine gc_seq fun K19 hK19 => ?_
            refine gc_region ?_
            refine gl_op rfl rfl rfl (op_pure hT rfl) ?_
            refine gl_op rfl rfl rfl (op_pure hT rfl) ?_
            refine gl_op rfl rfl rfl (op_pure hT rfl) ?_
            refine gl_nil ?_
            refine hK19 _ _ ?_
            clear hK19; try clear K19
            refine gc_ret ?_
            try simp only [x_then_ret, x_block_ret]
            refine gk_ret3 rfl rfl rfl rfl ?_
            have e1 : readFrameV l at_ = ([], 0, 13) := by unfold readFrameV; rw [if_neg (by omega)]; simp only; rw [← hmd, if_neg (by omega), if_neg (by omega), hvu, if_pos (by omega)]
            rw [e1]
            exact ⟨none, 0, rfl, owns_nil, hS.below⟩
          · try simp only [decide_eq_true_eq, decide_eq_false_iff_not, Bool.not_eq_true', Bool.not_eq_false', Int.not_lt, Int.not_le, Nat.not_lt, Nat.not_le, Bool.true_eq, Bool.false_eq, reduceCtorEq] at c48
            refine gc_skip ?_
            refine hK17 _ _ ?_
            clear hK17; try clear K17
            refine gc_seq fun K20 hK20 => ?_
            refine gc_seq fun K21 hK21 => ?_
            refine gc_region ?_
            refine gl_op rfl rfl rfl (op_pure hT rfl) ?_
            refine gl_op rfl rfl rfl (op_pure hT rfl) ?_
            refine gl_op rfl rfl rfl (op_pure hT rfl) ?_
            first | refine gl_fit hT rfl rfl rfl rfl (by omega) ?_ | refine gl_op rfl rfl rfl (op_pure hT rfl) ?_
            first | refine gl_fit hT rfl rfl rfl rfl (by omega) ?_ | refine gl_op rfl rfl rfl (op_pure hT rfl) ?_
            refine gl_op rfl rfl rfl (op_pure hT rfl) ?_
            first | refine gl_fit hT rfl rfl rfl rfl (by omega) ?_ | refine gl_op rfl rfl rfl (op_pure hT rfl) ?_
            refine gl_op rfl rfl rfl (op_pure hT rfl) ?_
            refine gl_nil ?_
            refine hK21 _ _ ?_
            clear hK21; try clear K21
            refine gc_cond rfl rfl (fun c56 => ?_) (fun c56 => ?_)
            · try simp only [decide_eq_true_eq, decide_eq_false_iff_not, Bool.not_eq_true', Bool.not_eq_false', Int.not_lt, Int.not_le, Nat.not_lt, Nat.not_le, Bool.true_eq, Bool.false_eq, reduceCtorEq] at c56
              refine gc_seq fun K22 hK22 => ?_
              refine gc_region ?_
              refine gl_op rfl rfl rfl (op_pure hT rfl) ?_
              refine gl_op rfl rfl rfl (op_pure hT rfl) ?_
              refine gl_op rfl rfl rfl (op_pure hT rfl) ?_
              refine gl_nil ?_
              refine hK22 _ _ ?_
              clear hK22; try clear K22
              refine gc_ret ?_
              try simp only [x_then_ret, x_block_ret]
              refine gk_ret3 rfl rfl rfl rfl ?_
              have e1 : readFrameV l at_ = ([], 0, 10) := by unfold readFrameV; rw [if_neg (by omega)]; simp only; rw [← hmd, if_neg (by omega), if_neg (by omega), hvu, if_neg (by omega), if_pos (by omega)]
              rw [e1]
              exact ⟨none, 0, rfl, owns_nil, hS.below⟩
            · try simp only [decide_eq_true_eq, decide_eq_false_iff_not, Bool.not_eq_true', Bool.not_eq_false', Int.not_lt, Int.not_le, Nat.not_lt, Nat.not_le, Bool.true_eq, Bool.false_eq, reduceCtorEq] at c56
              refine gc_skip ?_
              refine hK20 _ _ ?_
              clear hK20; try clear K20
              refine gc_seq fun K23 hK23 => ?_
              refine gc_region ?_
              refine gl_op rfl rfl rfl (op_pure hT rfl) ?_
              refine gl_op rfl rfl rfl (op_pure hT rfl) ?_
              first | refine gl_fit hT rfl rfl rfl rfl (by omega) ?_ | refine gl_op rfl rfl rfl (op_pure hT rfl) ?_
              refine gl_op rfl rfl rfl (op_pure hT rfl) ?_
              first | refine gl_fit hT rfl rfl rfl rfl (by omega) ?_ | refine gl_op rfl rfl rfl (op_pure hT rfl) ?_
              refine gl_op rfl rfl rfl (op_pure hT rfl) ?_
              first | refine gl_fit hT rfl rfl rfl rfl (by omega) ?_ | refine gl_op rfl rfl rfl (op_pure hT rfl) ?_
              refine gl_callf rfl rfl rfl rfl Tryd.func55 rfl rfl rfl (partI_calls A c l (at_ + 8) (u : Int) _ (h1.old hS) (by omega) (by omega) (by omega) hc (by omega) (by omega)) ?_
              rintro _ w64 ⟨A64, c64, rfl, hr64, hb64⟩
              refine ⟨_, rfl, ?_⟩
              have hS := hS.addRow hb64 hr64
              have e8 : (l.drop (at_ + 8).toNat).take ((u : Int)).toNat = (m.drop 8).take u := by rw [hmd, List.drop_drop, Int.toNat_natCast]; congr 2; omega
              rw [e8] at hS
              have eu : ((u : Int)).toNat = u := by omega
              rw [eu] at hS ⊢
              refine gl_op rfl rfl rfl (op_pure hT rfl) ?_
              refine gl_nil ?_
              refine hK23 _ _ ?_
              clear hK23; try clear K23
              refine gc_seq fun K24 hK24 => ?_
              refine gc_seq fun K25 hK25 => ?_
              refine gc_grow (e0 := [(0, .slice A l.length c), (1, .int .i64 at_), (7, .int .i64 u), (9, .slice A64 u c64)]) (by kernel_rfl) ⟨rfl, rfl, rfl, rfl, trivial⟩ (by kernel_rfl) (by kernel_rfl) (by kernel_rfl) ?_
              refine gg_op [] rfl rfl rfl (by kernel_rfl) (fun w1 hw1 => by have hS := hS.grown hw1; exact op_pure hT rfl) ?_
              refine gg_call [65] (.nd (leG (le4 (crcV ((m.drop 8).take u))))) (leG_stays _) rfl rfl rfl (by kernel_rfl) rfl Tryd.func44 rfl rfl rfl (fun w1 hw1 => ?_) ?_
              · have hS := hS.grown hw1
                exact SealedN_calls _ _ _ ((m.drop 8).take u) w1 (hS.rdE (i := 0) rfl) (by simp; omega) (by simp; omega)
              refine gg_op1 66 [] rfl rfl rfl rfl (by kernel_rfl) (fun w1 u hw1 hu => by
                have hS := hS.grown hw1
                obtain ⟨A2, c2, rfl, hrd⟩ := hu; exact op_b2s hT hrd rfl rfl rfl rfl rfl rfl) ?_
              refine gg_op [] rfl rfl rfl (by kernel_rfl) (fun w1 hw1 => by have hS := hS.grown hw1; exact op_pure hT rfl) ?_
              refine gg_op [] rfl rfl rfl (by kernel_rfl) (fun w1 hw1 => by have hS := hS.grown hw1; exact op_pure hT rfl) ?_
              refine gg_op [69] rfl rfl rfl (by kernel_rfl) (fun w1 hw1 => by have hS := hS.grown hw1; exact op_fit hT rfl (by omega)) ?_
              refine gg_op [] rfl rfl rfl (by kernel_rfl) (fun w1 hw1 => by have hS := hS.grown hw1; exact op_pure hT rfl) ?_
              refine gg_op [70, 71] rfl rfl rfl (by kernel_rfl) (fun w1 hw1 => by have hS := hS.grown hw1; exact op_fit hT rfl (by omega)) ?_
              refine gg_op [] rfl rfl rfl (by kernel_rfl) (fun w1 hw1 => by have hS := hS.grown hw1; exact op_pure hT rfl) ?_
              refine gg_op [73] rfl rfl rfl (by kernel_rfl) (fun w1 hw1 => by have hS := hS.grown hw1; exact op_fit hT rfl (by omega)) ?_
              refine gg_op [] rfl rfl rfl (by kernel_rfl) (fun w1 hw1 => by have hS := hS.grown hw1; exact op_pure hT rfl) ?_
              refine gg_op [74, 75] rfl rfl rfl (by kernel_rfl) (fun w1 hw1 => by have hS := hS.grown hw1; exact op_fit hT rfl (by omega)) ?_
              refine gg_op [68, 72, 76] rfl rfl rfl (by kernel_rfl) (fun w1 hw1 => by have hS := hS.grown hw1; exact op_slice_lh hT el5 rfl rfl rfl rfl rfl (by first | omega | (simp; omega)) (by first | omega | (simp; omega)) (by first | omega | (simp; omega))) ?_
              refine gg_op [77] rfl rfl rfl (by kernel_rfl) (fun w1 hw1 => by have hS := hS.grown hw1; exact op_b2s hT ((RdE.drop (h1.old hS) (k := (at_ + 8 + (u : Int)).toNat) (cap := c) (by omega) hc).take 4) rfl rfl rfl rfl rfl (by simp; omega)) ?_
              refine gg_op [67, 78] rfl rfl rfl (by kernel_rfl) (fun w1 hw1 => by have hS := hS.grown hw1; exact op_pure hT rfl) ?_
              refine gg_nil [79] fun wr17 hwr17 => ?_
              have hS := hS.grown hwr17
              have e5 : (l.drop (at_ + 8 + (u : Int)).toNat).take 4 = (m.drop (8 + u)).take 4 := by rw [hmd, List.drop_drop]; congr 2; omega
              have hiff2 := le4_eq (crcV ((m.drop 8).take u)) (crcV_lt _) ((m.drop (8 + u)).take 4) (by simp; omega)
              simp only [e5, hiff2]
              refine hK25 _ _ ?_
              clear hK25; try clear K25
              refine gc_cond rfl rfl (fun c79 => ?_) (fun c79 => ?_)
              · try simp only [decide_eq_true_eq, decide_eq_false_iff_not, Bool.not_eq_true', Bool.not_eq_false', Int.not_lt, Int.not_le, Nat.not_lt, Nat.not_le, Bool.true_eq, Bool.false_eq, reduceCtorEq] at c79
                refine gc_seq fun K26 hK26 => ?_
                refine gc_region ?_
                refine gl_op rfl rfl rfl (op_pure hT rfl) ?_
                refine gl_op rfl rfl rfl (op_pure hT rfl) ?_
                refine gl_op rfl rfl rfl (op_pure hT rfl) ?_
                refine gl_nil ?_
                refine hK26 _ _ ?_
                clear hK26; try clear K26
                refine gc_ret ?_
                try simp only [x_then_ret, x_block_ret]
                refine gk_ret3 rfl rfl rfl rfl ?_
                have e1 : readFrameV l at_ = ([], 0, 16) := by unfold readFrameV; rw [if_neg (by omega)]; simp only; rw [← hmd, if_neg (by omega), if_neg (by omega), hvu, if_neg (by omega), if_neg (by omega), if_pos (by omega)]
                rw [e1]
                exact ⟨none, 0, rfl, owns_nil, hS.below⟩
              · try simp only [decide_eq_true_eq, decide_eq_false_iff_not, Bool.not_eq_true', Bool.not_eq_false', Int.not_lt, Int.not_le, Nat.not_lt, Nat.not_le, Bool.true_eq, Bool.false_eq, reduceCtorEq] at c79
                refine gc_skip ?_
                refine hK24 _ _ ?_
                clear hK24; try clear K24
                refine gc_seq fun K27 hK27 => ?_
                refine gc_region ?_
                refine gl_op rfl rfl rfl (op_pure hT rfl) ?_
                refine gl_op rfl rfl rfl (op_pure hT rfl) ?_
                first | refine gl_fit hT rfl rfl rfl rfl (by omega) ?_ | refine gl_op rfl rfl rfl (op_pure hT rfl) ?_
                refine gl_op rfl rfl rfl (op_pure hT rfl) ?_
                first | refine gl_fit hT rfl rfl rfl rfl (by omega) ?_ | refine gl_op rfl rfl rfl (op_pure hT rfl) ?_
                refine gl_op rfl rfl rfl (op_pure hT rfl) ?_
                refine gl_op rfl rfl rfl (op_pure hT rfl) ?_
                refine gl_op rfl rfl rfl (op_pure hT rfl) ?_
                refine gl_nil ?_
                refine hK27 _ _ ?_
                clear hK27; try clear K27
                refine gc_ret ?_
                try simp only [x_then_ret, x_block_ret]
                refine gk_ret3 rfl rfl rfl rfl ?_
                have e1 : readFrameV l at_ = ((m.drop 8).take u, at_ + 12 + (u : Int), 0) := by unfold readFrameV; rw [if_neg (by omega)]; simp only; rw [← hmd, if_neg (by omega), if_neg (by omega), hvu, if_neg (by omega), if_neg (by omega), if_neg (by omega)]
                have e2 : ((m.drop 8).take u).length = u := by simp; omega
                rw [e1]
                simp only [e2]
                obtain ⟨h2, h3⟩ := hS.out (i := 0) rfl
                exact ⟨A64, c64, rfl, h2, h3⟩
end Go.Proofs.YtpeomdobcobdiaaDoor
