/- Contracts of the document's frames. No condition. -/
import Derived.Test.YtpeomdobcobdiaaDoorW6
namespace Go.Proofs.YtpeomdobcobdiaaDoor
open Go.RowKit
set_option linter.unusedVariables false
set_option linter.unusedSimpArgs false
theorem rSum_calls (A : Option Addr) (c : Nat) (S : List Sl) (D : List (List UInt8)) (w : World) {ok : Nat → Prop} (h1 : RdE w ok sV A S) (hp : Parts w S D) (hb : S.length ≤ 4611686018427387904) :
    Calls Tryd.prog 39 ⟨[.slice A S.length c]⟩ w fun e w' => e = .returned (.int .u32 (crcV D.flatten)) ∧ Eqv w w' := by
  refine gc_enter (N := 50) Tryd.func39 rfl rfl rfl [(0, _)] rfl ?_
  refine gc_seq fun K1 hK1 => ?_
  refine gc_region ?_
  refine gl_op rfl rfl rfl (op_pure hT rfl) ?_
  refine gl_nil ?_
  refine hK1 _ _ ?_
  clear hK1; try clear K1
  refine gc_seq fun K2 hK2 => ?_
  refine gc_region ?_
  refine gl_op rfl rfl rfl (op_pure hT rfl) ?_
  refine gl_nil ?_
  refine hK2 _ _ ?_
  clear hK2; try clear K2
  refine gc_seq fun K3 hK3 => ?_
  refine gc_seq fun K4 hK4 => ?_
  refine gc_region ?_
  refine gl_op rfl rfl rfl (op_pure hT rfl) ?_
  refine gl_nil ?_
  refine hK4 _ _ ?_
  clear hK4; try clear K4
  refine gc_block ?_
  have hD := hp.1
  refine gc_loop (fun k a w' => ∃ (i r : Nat), Fr 50 a [(0, .slice A S.length c), (3, .int .u32 r), (4, .int .i64 i)] ∧ i ≤ S.length ∧ k = S.length - i + 1 ∧ r < 4294967296 ∧ crcGo r (D.drop i).flatten = crcGo 4294967295 D.flatten ∧ w = w') (S.length + 1) ?_ ?_ ?_
  · intro a ha; exact ⟨0, 4294967295, ha.sub ⟨rfl, rfl, rfl, trivial⟩, by omega, by omega, by decide, rfl, rfl⟩
  · rintro a w ⟨i, r, _, h1, h2, _⟩; omega
  rintro k a _ ⟨i, r, hF, hi, hk, hr, hg, rfl⟩
  refine gc_of hF ?_
  refine gc_seq fun K5 hK5 => ?_
  refine gc_seq fun K6 hK6 => ?_
  refine gc_region ?_
  refine gl_op rfl rfl rfl (op_pure hT rfl) ?_
  refine gl_op rfl rfl rfl (op_pure hT rfl) ?_
  refine gl_op rfl rfl rfl (op_pure hT rfl) ?_
  refine gl_op rfl rfl rfl (op_pure hT rfl) ?_
  refine gl_nil ?_
  refine hK6 _ _ ?_
  clear hK6; try clear K6
  refine gc_cond rfl rfl (fun c12 => ?_) (fun c12 => ?_)
  · try simp only [decide_eq_true_eq, decide_eq_false_iff_not, Bool.not_eq_true', Bool.not_eq_false', Int.not_lt, Int.not_le, Nat.not_lt, Nat.not_le, Bool.true_eq, Bool.false_eq, reduceCtorEq] at c12
    refine gc_skip ?_
    refine hK5 _ _ ?_
    clear hK5; try clear K5
    refine gc_seq fun K7 hK7 => ?_
    refine gc_block ?_
    refine gc_seq fun K8 hK8 => ?_
    refine gc_region ?_
    refine gl_op rfl rfl rfl (op_pure hT rfl) ?_
    refine gl_nil ?_
    refine hK8 _ _ ?_
    clear hK8; try clear K8
    refine gc_block ?_
    have hpi := hp.2 i (by omega)
    have hln := hpi.2.1
    have hst : (S.getD ((i : Int)).toNat sl0) = S.getD i sl0 := by simp
    refine gc_loop (fun k a w' => ∃ (j q : Nat), Fr 50 a [(0, .slice A S.length c), (3, .int .u32 q), (4, .int .i64 i), (5, .int .i64 j)] ∧ j ≤ (D.getD i []).length ∧ k = (D.getD i []).length - j + 1 ∧ q < 4294967296 ∧ crcGo q ((D.getD i []).drop j) = crcGo r (D.getD i []) ∧ w = w') ((D.getD i []).length + 1) ?_ ?_ ?_
    · intro a ha; exact ⟨0, r, ha.sub ⟨rfl, rfl, rfl, rfl, trivial⟩, by omega, by omega, hr, rfl, rfl⟩
    · rintro a w ⟨j, q, _, h1, h2, _⟩; omega
    rintro k2 a _ ⟨j, q, hF, hj, hk2, hq, hgq, rfl⟩
    refine gc_of hF ?_
    refine gc_seq fun K9 hK9 => ?_
    refine gc_seq fun K10 hK10 => ?_
    refine gc_region ?_
    refine gl_op rfl rfl rfl (op_pure hT rfl) ?_
    refine gl_op rfl rfl rfl (op_pure hT rfl) ?_
    refine gl_op rfl rfl rfl (op_pure hT rfl) ?_
    refine gl_ix sl0 hT h1 rfl rfl rfl rfl rfl el22.cellsOf.1 el22.cellsOf.2 rfl (by simp) rfl (by omega) (by first | omega | (simp; omega)) fun p18 hp18 => ?_
    rw [hst] at hp18
    refine gl_op rfl rfl rfl (op_load hT rfl rfl rfl rfl hp18) ?_
    refine gl_op rfl rfl rfl (op_pure hT rfl) ?_
    refine gl_spell 20 (v := .int .i64 ((D.getD i []).length : Nat)) rfl (by rw [hpi.1]) ?_
    refine gl_op rfl rfl rfl (op_pure hT rfl) ?_
    refine gl_nil ?_
    refine hK10 _ _ ?_
    clear hK10; try clear K10
    refine gc_cond rfl rfl (fun c21 => ?_) (fun c21 => ?_)
    · try simp only [decide_eq_true_eq, decide_eq_false_iff_not, Bool.not_eq_true', Bool.not_eq_false', Int.not_lt, Int.not_le, Nat.not_lt, Nat.not_le, Bool.true_eq, Bool.false_eq, reduceCtorEq] at c21
      refine gc_skip ?_
      refine hK9 _ _ ?_
      clear hK9; try clear K9
      refine gc_seq fun K11 hK11 => ?_
      refine gc_block ?_
      refine gc_seq fun K12 hK12 => ?_
      refine gc_region ?_
      refine gl_op rfl rfl rfl (op_pure hT rfl) ?_
      refine gl_op rfl rfl rfl (op_pure hT rfl) ?_
      refine gl_ix sl0 hT h1 rfl rfl rfl rfl rfl el22.cellsOf.1 el22.cellsOf.2 rfl (by simp) rfl (by omega) (by first | omega | (simp; omega)) fun p26 hp26 => ?_
      rw [hst] at hp26
      refine gl_op rfl rfl rfl (op_load hT rfl rfl rfl rfl hp26) ?_
      refine gl_op rfl rfl rfl (op_pure hT rfl) ?_
      refine gl_ix (0 : UInt8) hT hpi.2.2 rfl rfl rfl rfl rfl el5.cellsOf.1 el5.cellsOf.2 rfl hpi.1 rfl (by omega) (by first | omega | (simp; omega)) fun p29 hp29 => ?_
      refine gl_op rfl rfl rfl (op_load hT rfl rfl rfl rfl hp29) ?_
      refine gl_op rfl rfl rfl (op_pure hT rfl) ?_
      refine gl_nil ?_
      refine hK12 _ _ ?_
      clear hK12; try clear K12
      refine gc_seq fun K13 hK13 => ?_
      refine gc_region ?_
      refine gl_op rfl rfl rfl (op_pure hT rfl) ?_
      refine gl_nil ?_
      refine hK13 _ _ ?_
      clear hK13; try clear K13
      refine gc_block ?_
      have hx : ((j : Int)).toNat = j := by omega
      have hx8 := u8_range ((D.getD i []).getD j 0)
      refine gc_loop (fun k a w' => ∃ (b u : Nat), Fr 50 a [(0, .slice A S.length c), (3, .int .u32 u), (4, .int .i64 i), (5, .int .i64 j), (6, .int .u8 ((((D.getD i []).getD j 0).toNat / 2 ^ b : Nat) : Int)), (7, .int .i64 b)] ∧ b ≤ 8 ∧ k = 9 - b ∧ u < 4294967296 ∧ u ^^^ ((D.getD i []).getD j 0).toNat / 2 ^ b = stps b (q ^^^ ((D.getD i []).getD j 0).toNat) ∧ w = w') 9 ?_ ?_ ?_
      · intro a ha; exact ⟨0, q, ha.sub ⟨rfl, rfl, rfl, rfl, by show some (uB ((D.getD i []).getD ((j : Int)).toNat 0)) = _; rw [hx, Nat.pow_zero, Nat.div_one]; rfl, rfl, trivial⟩, by omega, by omega, hq, by simp [stps], rfl⟩
      · rintro a w ⟨b, u, _, h1, h2, _⟩; omega
      rintro k3 a _ ⟨b, u, hF, hb8, hk3, hu, hst2, rfl⟩
      refine gc_of hF ?_
      have hxb : ((D.getD i []).getD j 0).toNat / 2 ^ b ≤ ((D.getD i []).getD j 0).toNat := Nat.div_le_self _ _
      have hstep := stp_pair u (((D.getD i []).getD j 0).toNat / 2 ^ b)
      have hpow : ((D.getD i []).getD j 0).toNat / 2 ^ b / 2 = ((D.getD i []).getD j 0).toNat / 2 ^ (b + 1) := by rw [Nat.div_div_eq_div_mul, Nat.pow_succ]
      rw [hpow] at hstep
      generalize hyb : ((D.getD i []).getD j 0).toNat / 2 ^ b = y at hxb hF hst2 hstep hpow
      refine gc_seq fun K14 hK14 => ?_
      refine gc_seq fun K15 hK15 => ?_
      refine gc_region ?_
      refine gl_op rfl rfl rfl (op_pure hT rfl) ?_
      refine gl_op rfl rfl rfl (op_pure hT rfl) ?_
      refine gl_nil ?_
      refine hK15 _ _ ?_
      clear hK15; try clear K15
      refine gc_cond rfl rfl (fun c32 => ?_) (fun c32 => ?_)
      · try simp only [decide_eq_true_eq, decide_eq_false_iff_not, Bool.not_eq_true', Bool.not_eq_false', Int.not_lt, Int.not_le, Nat.not_lt, Nat.not_le, Bool.true_eq, Bool.false_eq, reduceCtorEq] at c32
        refine gc_skip ?_
        refine hK14 _ _ ?_
        clear hK14; try clear K14
        refine gc_seq fun K16 hK16 => ?_
        refine gc_block ?_
        refine gc_seq fun K17 hK17 => ?_
        refine gc_region ?_
        refine gl_op rfl rfl rfl (op_pure hT rfl) ?_
        refine gl_op rfl rfl rfl (op_rem hT rfl (by omega)) ?_
        refine gl_op rfl rfl rfl (op_pure hT rfl) ?_
        refine gl_op rfl rfl rfl (op_pure hT rfl) ?_
        refine gl_spell 38 (v := .int .u32 (y : Nat)) rfl (by rw [IntKind.wrap_u32, Int.emod_eq_of_lt (by omega) (by omega)]) ?_
        refine gl_op rfl rfl rfl (op_rem hT rfl (by omega)) ?_
        refine gl_op rfl rfl rfl (op_pure hT rfl) ?_
        refine gl_op rfl rfl rfl (op_pure hT rfl) ?_
        refine gl_nil ?_
        refine hK17 _ _ ?_
        clear hK17; try clear K17
        refine gc_seq fun K18 hK18 => ?_
        refine gc_region ?_
        refine gl_op rfl rfl rfl (op_pure hT rfl) ?_
        refine gl_op rfl rfl rfl (op_pure hT rfl) ?_
        refine gl_spell 42 (v := .int .u32 (u / 2 : Nat)) rfl (by rw [Int.tdiv_eq_ediv_of_nonneg (by omega), IntKind.wrap_u32, Int.emod_eq_of_lt (by omega) (by omega)]; rfl) ?_
        refine gl_op rfl rfl rfl (op_pure hT rfl) ?_
        refine gl_nil ?_
        refine hK18 _ _ ?_
        clear hK18; try clear K18
        refine gc_seq fun K19 hK19 => ?_
        refine gc_region ?_
        refine gl_op rfl rfl rfl (op_pure hT rfl) ?_
        refine gl_op rfl rfl rfl (op_pure hT rfl) ?_
        refine gl_spell 44 (v := .int .u8 (y / 2 : Nat)) rfl (by rw [Int.tdiv_eq_ediv_of_nonneg (by omega), IntKind.wrap_u8, Int.emod_eq_of_lt (by omega) (by omega)]; rfl) ?_
        refine gl_op rfl rfl rfl (op_pure hT rfl) ?_
        refine gl_nil ?_
        refine hK19 _ _ ?_
        clear hK19; try clear K19
        refine gc_seq fun K20 hK20 => ?_
        refine gc_region ?_
        refine gl_op rfl rfl rfl (op_pure hT rfl) ?_
        refine gl_nil ?_
        refine hK20 _ _ ?_
        clear hK20; try clear K20
        refine gc_cond rfl rfl (fun c45 => ?_) (fun c45 => ?_)
        · try simp only [decide_eq_true_eq, decide_eq_false_iff_not, Bool.not_eq_true', Bool.not_eq_false', Int.not_lt, Int.not_le, Nat.not_lt, Nat.not_le, Bool.true_eq, Bool.false_eq, reduceCtorEq] at c45
          refine gc_region ?_
          refine gl_op rfl rfl rfl (op_pure hT rfl) ?_
          refine gl_op rfl rfl rfl (op_pure hT rfl) ?_
          refine gl_spell 47 (v := .int .u32 ((u / 2 ^^^ poly : Nat) : Int)) rfl (by rw [← u32_xor _ _ (by omega) (by decide)]; rfl) ?_
          refine gl_op rfl rfl rfl (op_pure hT rfl) ?_
          refine gl_nil ?_
          refine hK16 _ _ ?_
          clear hK16; try clear K16
          refine gc_region ?_
          refine gl_op rfl rfl rfl (op_pure hT rfl) ?_
          first | refine gl_fit hT rfl rfl rfl rfl (by omega) ?_ | refine gl_op rfl rfl rfl (op_pure hT rfl) ?_
          refine gl_op rfl rfl rfl (op_pure hT rfl) ?_
          refine gl_nil ?_
          intro a ha
          first
            | (have hne : u % 2 ≠ y % 2 := by omega
               rw [if_pos hne] at hstep
               refine ⟨b + 1, _, ha.sub ⟨rfl, rfl, rfl, rfl, by rw [← hpow]; rfl, rfl, trivial⟩, by omega, by omega, xor_lt32 (by omega) (by decide), ?_, rfl⟩
               rw [← hstep, hst2, stps_succ'])
            | (have heq : ¬ u % 2 ≠ y % 2 := by omega
               rw [if_neg heq] at hstep
               refine ⟨b + 1, _, ha.sub ⟨rfl, rfl, rfl, rfl, by rw [← hpow]; rfl, rfl, trivial⟩, by omega, by omega, by omega, ?_, rfl⟩
               rw [← hstep, hst2, stps_succ'])
        · try simp only [decide_eq_true_eq, decide_eq_false_iff_not, Bool.not_eq_true', Bool.not_eq_false', Int.not_lt, Int.not_le, Nat.not_lt, Nat.not_le, Bool.true_eq, Bool.false_eq, reduceCtorEq] at c45
          refine gc_skip ?_
          refine hK16 _ _ ?_
          clear hK16; try clear K16
          refine gc_region ?_
          refine gl_op rfl rfl rfl (op_pure hT rfl) ?_
          first | refine gl_fit hT rfl rfl rfl rfl (by omega) ?_ | refine gl_op rfl rfl rfl (op_pure hT rfl) ?_
          refine gl_op rfl rfl rfl (op_pure hT rfl) ?_
          refine gl_nil ?_
          intro a ha
          first
            | (have hne : u % 2 ≠ y % 2 := by omega
               rw [if_pos hne] at hstep
               refine ⟨b + 1, _, ha.sub ⟨rfl, rfl, rfl, rfl, by rw [← hpow]; rfl, rfl, trivial⟩, by omega, by omega, xor_lt32 (by omega) (by decide), ?_, rfl⟩
               rw [← hstep, hst2, stps_succ'])
            | (have heq : ¬ u % 2 ≠ y % 2 := by omega
               rw [if_neg heq] at hstep
               refine ⟨b + 1, _, ha.sub ⟨rfl, rfl, rfl, rfl, by rw [← hpow]; rfl, rfl, trivial⟩, by omega, by omega, by omega, ?_, rfl⟩
               rw [← hstep, hst2, stps_succ'])
      · try simp only [decide_eq_true_eq, decide_eq_false_iff_not, Bool.not_eq_true', Bool.not_eq_false', Int.not_lt, Int.not_le, Nat.not_lt, Nat.not_le, Bool.true_eq, Bool.false_eq, reduceCtorEq] at c32
        refine gc_exit ?_
        refine hK11 _ _ ?_
        clear hK11; try clear K11
        refine gc_region ?_
        refine gl_op rfl rfl rfl (op_pure hT rfl) ?_
        first | refine gl_fit hT rfl rfl rfl rfl (by omega) ?_ | refine gl_op rfl rfl rfl (op_pure hT rfl) ?_
        refine gl_op rfl rfl rfl (op_pure hT rfl) ?_
        refine gl_nil ?_
        intro a ha
        have hb8' : b = 8 := by omega
        subst hb8'
        refine ⟨j + 1, u, ha.sub ⟨rfl, rfl, rfl, rfl, trivial⟩, by omega, by omega, hu, ?_, rfl⟩
        have hy0 : y = 0 := by
          have := ((D.getD i []).getD j 0).toNat_lt
          omega
        rw [hy0, Nat.xor_zero] at hst2
        rw [← hgq, drop_at _ j (by omega), crcGo_cons, hst2]
        rfl
    · try simp only [decide_eq_true_eq, decide_eq_false_iff_not, Bool.not_eq_true', Bool.not_eq_false', Int.not_lt, Int.not_le, Nat.not_lt, Nat.not_le, Bool.true_eq, Bool.false_eq, reduceCtorEq] at c21
      refine gc_exit ?_
      refine hK7 _ _ ?_
      clear hK7; try clear K7
      refine gc_region ?_
      refine gl_op rfl rfl rfl (op_pure hT rfl) ?_
      first | refine gl_fit hT rfl rfl rfl rfl (by omega) ?_ | refine gl_op rfl rfl rfl (op_pure hT rfl) ?_
      refine gl_op rfl rfl rfl (op_pure hT rfl) ?_
      refine gl_nil ?_
      intro a ha
      have hje : j = (D.getD i []).length := by omega
      refine ⟨i + 1, _, ha.sub ⟨rfl, rfl, rfl, trivial⟩, by omega, by omega, hq, ?_, rfl⟩
      rw [← hg, flat_drop D i (by omega), crcGo_append, ← hgq, hje, List.drop_length, crcGo_nil]
  · try simp only [decide_eq_true_eq, decide_eq_false_iff_not, Bool.not_eq_true', Bool.not_eq_false', Int.not_lt, Int.not_le, Nat.not_lt, Nat.not_le, Bool.true_eq, Bool.false_eq, reduceCtorEq] at c12
    refine gc_exit ?_
    refine hK3 _ _ ?_
    clear hK3; try clear K3
    refine gc_seq fun K21 hK21 => ?_
    refine gc_region ?_
    refine gl_op rfl rfl rfl (op_pure hT rfl) ?_
    refine gl_op rfl rfl rfl (op_pure hT rfl) ?_
    refine gl_op rfl rfl rfl (op_pure hT rfl) ?_
    refine gl_nil ?_
    refine hK21 _ _ ?_
    clear hK21; try clear K21
    refine gc_ret ?_
    try simp only [x_then_ret, x_block_ret]
    refine gk_ret1 rfl rfl ?_
    have hie : i = S.length := by omega
    have hgg : crcGo 4294967295 D.flatten = r := by rw [← hg, hie, hD, List.drop_length]; rfl
    refine ⟨?_, Eqv.refl _⟩
    unfold crcV
    rw [hgg]
    show Ending.returned (Value.int .u32 (IntKind.u32.wrap (4294967295 - (r : Int)))) = _
    rw [IntKind.wrap_u32, Int.emod_eq_of_lt (by omega) (by omega)]
    congr 2
    omega
theorem Sealed_calls (A : Option Addr) (c : Nat) (l : List UInt8) (w : World) {ok : Nat → Prop} (h1 : RdE w ok uB A l) (hb : l.length ≤ 4611686018427387904) :
    Calls Tryd.prog 44 ⟨[.slice A l.length c]⟩ w fun e w' => ∃ A c, e = .returned (.slice A (le4 (crcV l)).length c) ∧ Owns w' w.heap.size A c 5 1 (le4 (crcV l)).length ((le4 (crcV l)).map uB) ∧ Below w.heap.size w w' := by
  refine gc_enter (N := 7) Tryd.func44 rfl rfl rfl [(0, _)] rfl ?_
  have hS := St.start w
  refine gc_seq fun K1 hK1 => ?_
  refine gc_region ?_
  refine gl_op rfl rfl rfl (op_pure hT rfl) ?_
  refine gl_nil ?_
  refine hK1 _ _ ?_
  clear hK1; try clear K1
  refine gc_seq fun K2 hK2 => ?_
  refine gc_region ?_
  refine gl_op rfl rfl rfl (op_pure hT rfl) ?_
  refine gl_lit hT hS el22 rfl rfl rfl rfl rfl rfl rfl rfl rfl fun g4 w4 hS => ?_
  refine gl_callf rfl rfl rfl rfl Tryd.func39 rfl rfl rfl (rSum_calls _ _ [(A, l.length, c)] [l] _ (hS.rdE (l := [(A, l.length, c)]) (i := 0) rfl) (Parts.one (h1.old hS) hb) (by simp)) ?_
  rintro _ _ ⟨rfl, n5, rfl⟩
  refine ⟨_, rfl, ?_⟩
  have hS := hS.dr n5
  rw [show [l].flatten = l by simp]
  refine gl_callf rfl rfl rfl rfl Tryd.func62 rfl rfl rfl (rfour_calls _ (crcV_lt _) _) ?_
  rintro _ w6 ⟨A6, c6, rfl, hr6, hb6⟩
  refine ⟨_, rfl, ?_⟩
  have hS := hS.addRow hb6 hr6
  refine gl_op rfl rfl rfl (op_pure hT rfl) ?_
  refine gl_nil ?_
  refine hK2 _ _ ?_
  clear hK2; try clear K2
  refine gc_ret ?_
  try simp only [x_then_ret, x_block_ret]
  refine gk_ret1 rfl rfl ?_
  obtain ⟨h2, h3⟩ := hS.out (i := 1) rfl
  exact ⟨_, _, rfl, h2, h3⟩
theorem rFrame_calls (A : Option Addr) (c : Nat) (l : List UInt8) (w : World) {ok : Nat → Prop} (h1 : RdE w ok uB A l) (hb : l.length ≤ 4611686018427387904) :
    Calls Tryd.prog 41 ⟨[.slice A l.length c]⟩ w fun e w' => ∃ A' c', e = .returned (.tuple #[.slice A' (frameV l).1.length c', .int .i64 (frameV l).2]) ∧ Owns w' w.heap.size A' c' 5 1 (frameV l).1.length ((frameV l).1.map uB) ∧ Below w.heap.size w w' := by
  refine gc_enter (N := 24) Tryd.func41 rfl rfl rfl [(0, _)] rfl ?_
  have hS := St.start w
  have q1 := le4_len l.length
  have q2 := le4_len (crcV (le4 l.length))
  have q3 := le4_len (crcV l)
  refine gc_seq fun K1 hK1 => ?_
  refine gc_region ?_
  refine gl_op rfl rfl rfl (op_pure hT rfl) ?_
  refine gl_op rfl rfl rfl (op_pure hT rfl) ?_
  refine gl_nil ?_
  refine hK1 _ _ ?_
  clear hK1; try clear K1
  refine gc_seq fun K2 hK2 => ?_
  refine gc_seq fun K3 hK3 => ?_
  refine gc_region ?_
  refine gl_op rfl rfl rfl (op_pure hT rfl) ?_
  refine gl_op rfl rfl rfl (op_pure hT rfl) ?_
  refine gl_op rfl rfl rfl (op_pure hT rfl) ?_
  refine gl_nil ?_
  refine hK3 _ _ ?_
  clear hK3; try clear K3
  refine gc_cond rfl rfl (fun c8 => ?_) (fun c8 => ?_)
  · try simp only [decide_eq_true_eq, decide_eq_false_iff_not, Bool.not_eq_true', Bool.not_eq_false', Int.not_lt, Int.not_le, Nat.not_lt, Nat.not_le, Bool.true_eq, Bool.false_eq, reduceCtorEq] at c8
    refine gc_seq fun K4 hK4 => ?_
    refine gc_region ?_
    refine gl_op rfl rfl rfl (op_pure hT rfl) ?_
    refine gl_op rfl rfl rfl (op_pure hT rfl) ?_
    refine gl_nil ?_
    refine hK4 _ _ ?_
    clear hK4; try clear K4
    refine gc_ret ?_
    try simp only [x_then_ret, x_block_ret]
    refine gk_ret2 rfl rfl rfl ?_
    have e1 : frameV l = ([], 2) := by unfold frameV; rw [if_pos (by omega)]
    rw [e1]
    exact ⟨none, 0, rfl, ⟨rfl, .inl ⟨rfl, rfl, rfl⟩⟩, hS.below⟩
  · try simp only [decide_eq_true_eq, decide_eq_false_iff_not, Bool.not_eq_true', Bool.not_eq_false', Int.not_lt, Int.not_le, Nat.not_lt, Nat.not_le, Bool.true_eq, Bool.false_eq, reduceCtorEq] at c8
    refine gc_skip ?_
    refine hK2 _ _ ?_
    clear hK2; try clear K2
    refine gc_seq fun K5 hK5 => ?_
    refine gc_region ?_
    refine gl_op rfl rfl rfl (op_pure hT rfl) ?_
    refine gl_op rfl rfl rfl (op_pure hT rfl) ?_
    refine gl_op rfl rfl rfl (op_pure hT rfl) ?_
    refine gl_spell 11 (v := .int .u32 (l.length : Nat)) rfl (by rw [IntKind.wrap_u32, Int.emod_eq_of_lt (by omega) (by omega)]) ?_
    refine gl_callf rfl rfl rfl rfl Tryd.func62 rfl rfl rfl (rfour_calls _ (by omega) _) ?_
    rintro _ w12 ⟨A12, c12, rfl, hr12, hb12⟩
    refine ⟨_, rfl, ?_⟩
    have hS := hS.addRow hb12 hr12
    refine gl_op rfl rfl rfl (op_pure hT rfl) ?_
    refine gl_nil ?_
    refine hK5 _ _ ?_
    clear hK5; try clear K5
    refine gc_seq fun K6 hK6 => ?_
    refine gc_region ?_
    refine gl_op rfl rfl rfl (op_pure hT rfl) ?_
    refine gl_op rfl rfl rfl (op_pure hT rfl) ?_
    refine gl_callf rfl rfl rfl rfl Tryd.func44 rfl rfl rfl (Sealed_calls _ _ (le4 l.length) _ (hS.rdE (i := 0) rfl) (by simp [le4_len])) ?_
    rintro _ w15 ⟨A15, c15, rfl, hr15, hb15⟩
    refine ⟨_, rfl, ?_⟩
    have hS := hS.addRow hb15 hr15
    refine gl_append 0 hT hS el5 (hS.rd (i := 1) rfl) (rfl) rfl rfl rfl rfl rfl rfl rfl rfl (by first | omega | (simp; omega)) (by first | omega | (simp; omega)) fun A16 c16 w16 hS => ?_
    refine gl_op rfl rfl rfl (op_pure hT rfl) ?_
    refine gl_nil ?_
    refine hK6 _ _ ?_
    clear hK6; try clear K6
    refine gc_seq fun K7 hK7 => ?_
    refine gc_region ?_
    refine gl_op rfl rfl rfl (op_pure hT rfl) ?_
    refine gl_op rfl rfl rfl (op_pure hT rfl) ?_
    refine gl_append 0 hT hS el5 (h1.old hS) (allOne_uB _) rfl rfl rfl rfl rfl rfl rfl rfl (by first | omega | (simp; omega)) (by first | omega | (simp; omega)) fun A19 c19 w19 hS => ?_
    refine gl_op rfl rfl rfl (op_pure hT rfl) ?_
    refine gl_nil ?_
    refine hK7 _ _ ?_
    clear hK7; try clear K7
    refine gc_seq fun K8 hK8 => ?_
    refine gc_region ?_
    refine gl_op rfl rfl rfl (op_pure hT rfl) ?_
    refine gl_op rfl rfl rfl (op_pure hT rfl) ?_
    refine gl_callf rfl rfl rfl rfl Tryd.func44 rfl rfl rfl (Sealed_calls _ _ l _ (h1.old hS) hb) ?_
    rintro _ w22 ⟨A22, c22, rfl, hr22, hb22⟩
    refine ⟨_, rfl, ?_⟩
    have hS := hS.addRow hb22 hr22
    refine gl_append 0 hT hS el5 (hS.rd (i := 2) rfl) (rfl) rfl rfl rfl rfl rfl rfl rfl rfl (by first | omega | (simp; omega)) (by first | omega | (simp; omega)) fun A23 c23 w23 hS => ?_
    refine gl_op rfl rfl rfl (op_pure hT rfl) ?_
    refine gl_op rfl rfl rfl (op_pure hT rfl) ?_
    refine gl_nil ?_
    refine hK8 _ _ ?_
    clear hK8; try clear K8
    refine gc_ret ?_
    try simp only [x_then_ret, x_block_ret]
    refine gk_ret2 rfl rfl rfl ?_
    have e1 : frameV l = (frameB l, 0) := by unfold frameV; rw [if_neg (by omega)]
    rw [e1]
    obtain ⟨h2, h3⟩ := hS.out (i := 0) rfl
    have e2 : (le4 l.length).length + (le4 (crcV (le4 l.length))).length + l.length + (le4 (crcV l)).length = (frameB l).length := by simp [frameB, le4_len]; omega
    have e3 : List.map uB (le4 l.length) ++ List.map uB (le4 (crcV (le4 l.length))) ++ List.map uB l ++ List.map uB (le4 (crcV l)) = (frameB l).map uB := by simp [frameB]
    rw [e2, e3] at h2
    exact ⟨A23, c23, by rw [e2], h2, h3⟩
end Go.Proofs.YtpeomdobcobdiaaDoor
