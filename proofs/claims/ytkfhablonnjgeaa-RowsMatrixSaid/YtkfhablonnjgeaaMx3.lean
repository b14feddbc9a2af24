/- The contract of ambitlaw7.RowsMatrix. No condition. -/
import Derived.Test.YtkfhablonnjgeaaMx2
namespace Go.Proofs.Ytkfhablonnjgeaa
open Go.RowKit
set_option linter.unusedVariables false
set_option linter.unusedSimpArgs false
theorem RdE.cellN {α : Type} {w : World} {ok : Nat → Prop} {enc : α → Value} {A : Option Addr} {l : List α} {ad : Addr} (h : RdE w ok enc A l) (hA : A = some ad) {p : Nat} {y : α} (hp : l[p]? = some y) : w.cell? (ad.add p) = some (enc y) := by
  obtain ⟨ad2, hA2, hc2⟩ := h.at y (i := (p : Int)) (by omega) (by have := (List.getElem?_eq_some_iff.1 hp).1; omega)
  have e1 : l.getD ((p : Int)).toNat y = y := by rw [Int.toNat_natCast, List.getD_eq_getElem?_getD, hp]; rfl
  rw [e1, Int.toNat_natCast, Nat.mul_one] at hc2
  rw [hA] at hA2
  obtain rfl := Option.some.inj hA2
  exact hc2
theorem RdE.base {α : Type} {w : World} {ok : Nat → Prop} {enc : α → Value} {A : Option Addr} {l : List α} (h : RdE w ok enc A l) {p : Nat} {y : α} (hp : l[p]? = some y) : ∃ ad, A = some ad := by
  obtain ⟨ad2, hA2, _⟩ := h.at y (i := (p : Int)) (by omega) (by have := (List.getElem?_eq_some_iff.1 hp).1; omega)
  exact ⟨ad2, hA2⟩
theorem getD_at {α : Type} {l : List α} {p : Nat} {y : α} (z : α) (hp : l[p]? = some y) : l.getD p z = y := by rw [List.getD_eq_getElem?_getD, hp]; rfl
set_option maxHeartbeats 8000000 in
set_option maxRecDepth 100000 in
theorem RowsMatrix_calls (k out kh kw sh sw ph pw seed : Int) (s : Sh) (w : World) (hi : i64 k ∧ i64 out ∧ i64 kh ∧ i64 kw ∧ i64 sh ∧ i64 sw ∧ i64 ph ∧ i64 pw) (hse : i64 seed) (hs : s.ok) :
    Calls Try.prog 4 ⟨[.agg ⟨whC k out kh kw sh sw ph pw seed⟩, .agg ⟨shC s⟩]⟩ w fun e w' => e = .returned (.bool true) ∧ Below w.heap.size w w' := by
  obtain ⟨a0, ha0⟩ : ∃ a0, a0 = mdA k seed := ⟨_, rfl⟩
  have ha64 : a0 < 18446744073709551616 := by rw [ha0]; exact (mdA_sm k seed).lt
  refine gc_enter (N := 166) Try.func4 rfl rfl rfl [(0, _), (1, _)] rfl ?_
  have hS := St.start w
  refine gc_seq fun K1 hK1 => ?_
  refine gc_region ?_
  refine gl_box hS rfl rfl rfl rfl rfl fun g2 w2 hS => ?_
  refine gl_box hS rfl rfl rfl rfl rfl fun g3 w3 hS => ?_
  refine gl_op rfl rfl rfl (op_pure hT rfl) ?_
  refine gl_nil ?_
  refine hK1 _ _ ?_
  clear hK1; try clear K1
  refine gc_seq fun K2 hK2 => ?_
  refine gc_region ?_
  refine gl_op rfl rfl rfl (op_loadG 0 Try.underlying25 rfl el25 hS rfl rfl rfl rfl rfl) ?_
  refine gl_op rfl rfl rfl (op_loadG 1 Try.underlying27 rfl el27 hS rfl rfl rfl rfl rfl) ?_
  refine gl_callf rfl rfl rfl rfl Try.func10 rfl rfl rfl (made_calls k out kh kw sh sw ph pw seed s _ hi hs a0 ha0) ?_
  rintro _ w22 ⟨W, B, Z, Y, b, K, rfl, h22, hm1, _⟩
  have hLok : (mdL k out kh kw sh sw ph pw a0 W B Z Y).ok := mdL_ok hi ha64
  have hsa : sm (mdL k out kh kw sh sw ph pw a0 W B Z Y).a := by show sm a0; rw [ha0]; exact mdA_sm _ _
  generalize mdL k out kh kw sh sw ph pw a0 W B Z Y = L at hm1 hLok hsa
  refine ⟨_, rfl, ?_⟩
  have hS := hS.more h22
  refine gl_op rfl rfl rfl (op_pure hT rfl) ?_
  refine gl_op rfl rfl rfl (op_pure hT rfl) ?_
  refine gl_op rfl rfl rfl (op_pure hT rfl) ?_
  refine gl_alloc el32 hS rfl rfl rfl rfl fun g5 w5 hS => ?_
  refine gl_storeM 3 hS el32 rfl rfl rfl rfl rfl rfl rfl rfl rfl fun wlaw_go_274 hS => ?_
  refine gl_op rfl rfl rfl (op_pure hT rfl) ?_
  refine gl_nil ?_
  refine hK2 _ _ ?_
  clear hK2; try clear K2
  refine gc_cut (fun a w' => Fr 166 a [(2, .pointer (some ⟨g2, 0, none⟩)), (3, .pointer (some ⟨g3, 0, none⟩)), (5, .pointer (some ⟨g5, 0, none⟩))] ∧ (b = true ∧ (1 ≤ L.k ∧ L.k ≤ 6) ∧ L.k ≠ 5) ∧ St w.heap.size w w' [.blk g2 25 (whC k out kh kw sh sw ph pw seed), .blk g3 27 (shC s), .keep K w22, .blk g5 32 (lyC L)]) ?_ ?_
  · skip
    refine gc_seq fun K3 hK3 => ?_
    refine gc_region ?_
    refine gl_op rfl rfl rfl (op_pure hT rfl) ?_
    refine gl_op rfl rfl rfl (op_pure hT rfl) ?_
    refine gl_op rfl rfl rfl (op_pure hT rfl) ?_
    refine gl_split (t := 27) rfl (fun c27 => ?_) (fun c27 => ?_)
    · try simp only [decide_eq_true_eq, decide_eq_false_iff_not, Bool.not_eq_true', Bool.not_eq_false', Int.not_lt, Int.not_le, Nat.not_lt, Nat.not_le, Bool.true_eq, Bool.false_eq, reduceCtorEq] at c27
      refine gl_pass rfl rfl rfl rfl rfl rfl ?_
      refine gl_pass rfl rfl rfl rfl rfl rfl ?_
      refine gl_pass rfl rfl rfl rfl rfl rfl ?_
      refine gl_pass rfl rfl rfl rfl rfl rfl ?_
      refine gl_op rfl rfl rfl (op_pure hT rfl) ?_
      refine gl_op rfl rfl rfl (op_pure hT rfl) ?_
      refine gl_pass rfl rfl rfl rfl rfl rfl ?_
      refine gl_pass rfl rfl rfl rfl rfl rfl ?_
      refine gl_pass rfl rfl rfl rfl rfl rfl ?_
      refine gl_op rfl rfl rfl (op_pure hT rfl) ?_
      refine gl_nil ?_
      refine hK3 _ _ ?_
      clear hK3; try clear K3
      refine gc_cond_t rfl ?_
      refine gc_seq fun K4 hK4 => ?_
      refine gc_region ?_
      refine gl_callf rfl rfl rfl rfl Try.func7 rfl rfl rfl (told_calls _) ?_
      rintro _ w38 ⟨rfl, hb38⟩
      refine ⟨_, rfl, ?_⟩
      have hS := hS.grown hb38
      refine gl_op rfl rfl rfl (op_pure hT rfl) ?_
      refine gl_nil ?_
      refine hK4 _ _ ?_
      clear hK4; try clear K4
      refine gc_ret ?_
      try simp only [x_then_ret, x_block_ret]
      refine gk_ret1 rfl rfl ?_
      exact ⟨rfl, hS.below⟩
    · try simp only [decide_eq_true_eq, decide_eq_false_iff_not, Bool.not_eq_true', Bool.not_eq_false', Int.not_lt, Int.not_le, Nat.not_lt, Nat.not_le, Bool.true_eq, Bool.false_eq, reduceCtorEq] at c27
      refine gl_un rfl rfl rfl rfl ?_
      refine gl_op rfl rfl rfl (op_fieldB 0 rfl Try.underlying32 rfl el3 rfl rfl) ?_
      refine gl_un rfl rfl rfl rfl ?_
      refine gl_op rfl rfl rfl (op_loadB 3 hT hS rfl rfl rfl rfl rfl rfl) ?_
      refine gl_un rfl rfl rfl rfl ?_
      refine gl_callf rfl rfl rfl rfl Try.func8 rfl rfl rfl (linear_calls L.k _) ?_
      rintro _ _ ⟨rfl, n30, rfl⟩
      refine ⟨_, rfl, ?_⟩
      have hS := hS.dr n30
      refine gl_un rfl rfl rfl rfl ?_
      refine gl_op rfl rfl rfl (op_pure hT rfl) ?_
      refine gl_op rfl rfl rfl (op_pure hT rfl) ?_
      refine gl_op rfl rfl rfl (op_pure hT rfl) ?_
      refine gl_split (t := 33) rfl (fun c33 => ?_) (fun c33 => ?_)
      · try simp only [decide_eq_true_eq, decide_eq_false_iff_not, Bool.not_eq_true', Bool.not_eq_false', Int.not_lt, Int.not_le, Nat.not_lt, Nat.not_le, Bool.true_eq, Bool.false_eq, reduceCtorEq] at c33
        refine gl_pass rfl rfl rfl rfl rfl rfl ?_
        refine gl_pass rfl rfl rfl rfl rfl rfl ?_
        refine gl_pass rfl rfl rfl rfl rfl rfl ?_
        refine gl_op rfl rfl rfl (op_pure hT rfl) ?_
        refine gl_nil ?_
        refine hK3 _ _ ?_
        clear hK3; try clear K3
        refine gc_cond_t rfl ?_
        refine gc_seq fun K5 hK5 => ?_
        refine gc_region ?_
        refine gl_callf rfl rfl rfl rfl Try.func7 rfl rfl rfl (told_calls _) ?_
        rintro _ w38 ⟨rfl, hb38⟩
        refine ⟨_, rfl, ?_⟩
        have hS := hS.grown hb38
        refine gl_op rfl rfl rfl (op_pure hT rfl) ?_
        refine gl_nil ?_
        refine hK5 _ _ ?_
        clear hK5; try clear K5
        refine gc_ret ?_
        try simp only [x_then_ret, x_block_ret]
        refine gk_ret1 rfl rfl ?_
        exact ⟨rfl, hS.below⟩
      · try simp only [decide_eq_true_eq, decide_eq_false_iff_not, Bool.not_eq_true', Bool.not_eq_false', Int.not_lt, Int.not_le, Nat.not_lt, Nat.not_le, Bool.true_eq, Bool.false_eq, reduceCtorEq] at c33
        refine gl_un rfl rfl rfl rfl ?_
        refine gl_op rfl rfl rfl (op_fieldB 0 rfl Try.underlying32 rfl el3 rfl rfl) ?_
        refine gl_un rfl rfl rfl rfl ?_
        refine gl_op rfl rfl rfl (op_loadB 3 hT hS rfl rfl rfl rfl rfl rfl) ?_
        refine gl_un rfl rfl rfl rfl ?_
        refine gl_op rfl rfl rfl (op_pure hT rfl) ?_
        refine gl_op rfl rfl rfl (op_pure hT rfl) ?_
        refine gl_nil ?_
        refine hK3 _ _ ?_
        clear hK3; try clear K3
        refine gc_cond rfl rfl (fun c37 => ?_) (fun c37 => ?_)
        · try simp only [decide_eq_true_eq, decide_eq_false_iff_not, Bool.not_eq_true', Bool.not_eq_false', Int.not_lt, Int.not_le, Nat.not_lt, Nat.not_le, Bool.true_eq, Bool.false_eq, reduceCtorEq] at c37
          refine gc_seq fun K6 hK6 => ?_
          refine gc_region ?_
          refine gl_callf rfl rfl rfl rfl Try.func7 rfl rfl rfl (told_calls _) ?_
          rintro _ w38 ⟨rfl, hb38⟩
          refine ⟨_, rfl, ?_⟩
          have hS := hS.grown hb38
          refine gl_op rfl rfl rfl (op_pure hT rfl) ?_
          refine gl_nil ?_
          refine hK6 _ _ ?_
          clear hK6; try clear K6
          refine gc_ret ?_
          try simp only [x_then_ret, x_block_ret]
          refine gk_ret1 rfl rfl ?_
          exact ⟨rfl, hS.below⟩
        · try simp only [decide_eq_true_eq, decide_eq_false_iff_not, Bool.not_eq_true', Bool.not_eq_false', Int.not_lt, Int.not_le, Nat.not_lt, Nat.not_le, Bool.true_eq, Bool.false_eq, reduceCtorEq] at c37
          refine gc_skip ?_
          intro a ha
          exact ⟨ha.sub ⟨rfl, rfl, rfl, trivial⟩, ⟨by cases b; exact absurd c27 (by simp); rfl, by omega, by omega⟩, hS⟩
  rintro a w1 ⟨hF, ⟨hbt, hk16, hk5⟩, hS⟩
  refine gc_of hF ?_
  clear hF
  have hmd := hm1 hbt
  have hout := hmd.out
  have hMx := hmd.mx ⟨hk5, hk16.2⟩ hsa
  obtain ⟨hf0, hsz, _, _, _⟩ := outV_zero hout
  have hgs := sz_good hsz
  have hgo := out_of_count hout
  obtain ⟨M, hM⟩ : ∃ M : Nat, (outS L s).c * (outS L s).h * (outS L s).w = (M : Int) := ⟨_, (Int.toNat_of_nonneg (by omega)).symm⟩
  obtain ⟨N, hN⟩ : ∃ N : Nat, s.c * s.h * s.w = (N : Int) := ⟨_, (Int.toNat_of_nonneg (by omega)).symm⟩
  have m4 := mul_bd (a := s.c) (b := s.h) (A := 256) (B := 256) (by omega) (by omega) (by omega) (by omega)
  obtain ⟨v, hve⟩ : ∃ v, v = inputV seed N := ⟨_, rfl⟩
  have hvN : v.length = N := by rw [hve]; exact inputV_len _ _
  have hsv : Sml v := by rw [hve]; exact fun j => inputV_bd _ _ _
  have hvl : (v.length : Int) = s.c * s.h * s.w := by rw [hvN, hN]
  obtain ⟨lw, hlw⟩ : ∃ l, l = mdW seed (lensV L s).1.toNat := ⟨_, rfl⟩
  obtain ⟨lb, hlb⟩ : ∃ l, l = mdB seed (lensV L s).2.1.toNat := ⟨_, rfl⟩
  obtain ⟨lz, hlz⟩ : ∃ l, l = mdZ seed (lensV L s).2.2.1.toNat := ⟨_, rfl⟩
  obtain ⟨lzb, hlzb⟩ : ∃ l, l = mdY seed (lensV L s).2.2.2.toNat := ⟨_, rfl⟩
  have hrd := hmd.rd
  rw [← hlw, ← hlb, ← hlz, ← hlzb] at hMx hrd
  refine gc_seq fun K7 hK7 => ?_
  refine gc_region ?_
  refine gl_op rfl rfl rfl (op_fieldB 0 rfl Try.underlying27 rfl el3 rfl rfl) ?_
  refine gl_op rfl rfl rfl (op_loadB 1 hT hS rfl rfl rfl rfl rfl rfl) ?_
  refine gl_op rfl rfl rfl (op_fieldB 1 rfl Try.underlying27 rfl el3 rfl rfl) ?_
  refine gl_op rfl rfl rfl (op_loadB 1 hT hS rfl rfl rfl rfl rfl rfl) ?_
  first | refine gl_fit hT rfl rfl rfl rfl (by omega) ?_ | refine gl_op rfl rfl rfl (op_pure hT rfl) ?_
  refine gl_op rfl rfl rfl (op_fieldB 2 rfl Try.underlying27 rfl el3 rfl rfl) ?_
  refine gl_op rfl rfl rfl (op_loadB 1 hT hS rfl rfl rfl rfl rfl rfl) ?_
  refine gl_fit hT rfl rfl rfl rfl (by omega) ?_
  refine gl_spell 46 (v := .int .i64 (N : Nat)) rfl (by rw [hN]) ?_
  refine gl_op rfl rfl rfl (op_pure hT rfl) ?_
  refine gl_nil ?_
  refine hK7 _ _ ?_
  clear hK7; try clear K7
  refine gc_seq fun K8 hK8 => ?_
  refine gc_region ?_
  refine gl_op rfl rfl rfl (op_fieldB 8 rfl Try.underlying25 rfl el3 rfl rfl) ?_
  refine gl_op rfl rfl rfl (op_loadB 0 hT hS rfl rfl rfl rfl rfl rfl) ?_
  refine gl_op rfl rfl rfl (op_pure hT rfl) ?_
  refine gl_callf rfl rfl rfl rfl Try.func11 rfl rfl rfl (input_calls seed N _ hse (by omega)) ?_
  rintro _ w50 ⟨A50, c50, K50, rfl, hr50, h50⟩
  refine ⟨_, rfl, ?_⟩
  rw [← hve] at hr50
  have hS := hS.more h50
  refine gl_op rfl rfl rfl (op_pure hT rfl) ?_
  refine gl_nil ?_
  refine hK8 _ _ ?_
  clear hK8; try clear K8
  refine gc_seq fun K9 hK9 => ?_
  refine gc_region ?_
  refine gl_op rfl rfl rfl (op_loadG 3 Try.underlying32 rfl el32 hS rfl rfl rfl rfl rfl) ?_
  refine gl_op rfl rfl rfl (op_loadG 1 Try.underlying27 rfl el27 hS rfl rfl rfl rfl rfl) ?_
  refine gl_op rfl rfl rfl (op_pure hT rfl) ?_
  refine gl_callf rfl rfl rfl rfl Try.func12 rfl rfl rfl (plain_calls L lw lb lz lzb s A50 N c50 v _ (hrd.keep hS (i := 2) rfl) (hS.keepRd (i := 4) rfl hr50) hvN.symm hMx hsv hvl M hM) ?_
  rintro _ w54 ⟨A54, m54, c54, K54, rfl, hr54, h54⟩
  refine ⟨_, rfl, ?_⟩
  have hS := hS.more h54
  refine gl_op rfl rfl rfl (op_pure hT rfl) ?_
  refine gl_nil ?_
  refine hK9 _ _ ?_
  clear hK9; try clear K9
  refine gc_cut (fun a w' => ∃ A9 c9 K9 w9, Fr 166 a [(3, .pointer (some ⟨g3, 0, none⟩)), (5, .pointer (some ⟨g5, 0, none⟩)), (7, .int .i64 (N : Nat)), (8, .slice A50 N c50), (9, .slice A9 M c9)] ∧ RdE w9 K9 nV A9 (wantL L lw lb lz lzb s v M) ∧
  St w.heap.size w w' [.blk g2 25 (whC k out kh kw sh sw ph pw seed), .blk g3 27 (shC s), .keep K w22, .blk g5 32 (lyC L), .keep K50 w50, .keep K9 w9]) ?_ ?_
  · skip
    refine gc_seq fun K10 hK10 => ?_
    refine gc_region ?_
    refine gl_op rfl rfl rfl (op_fieldB 0 rfl Try.underlying32 rfl el3 rfl rfl) ?_
    refine gl_op rfl rfl rfl (op_loadB 3 hT hS rfl rfl rfl rfl rfl rfl) ?_
    refine gl_op rfl rfl rfl (op_pure hT rfl) ?_
    refine gl_op rfl rfl rfl (op_pure hT rfl) ?_
    refine gl_split (t := 58) rfl (fun c58 => ?_) (fun c58 => ?_)
    · try simp only [decide_eq_true_eq, decide_eq_false_iff_not, Bool.not_eq_true', Bool.not_eq_false', Int.not_lt, Int.not_le, Nat.not_lt, Nat.not_le, Bool.true_eq, Bool.false_eq, reduceCtorEq] at c58
      refine gl_pass rfl rfl rfl rfl rfl rfl ?_
      refine gl_pass rfl rfl rfl rfl rfl rfl ?_
      refine gl_pass rfl rfl rfl rfl rfl rfl ?_
      refine gl_op rfl rfl rfl (op_pure hT rfl) ?_
      refine gl_nil ?_
      refine hK10 _ _ ?_
      clear hK10; try clear K10
      refine gc_cond_t rfl ?_
      refine gc_region ?_
      refine gl_op rfl rfl rfl (op_loadG 3 Try.underlying32 rfl el32 hS rfl rfl rfl rfl rfl) ?_
      refine gl_op rfl rfl rfl (op_loadG 1 Try.underlying27 rfl el27 hS rfl rfl rfl rfl rfl) ?_
      refine gl_op rfl rfl rfl (op_pure hT rfl) ?_
      refine gl_callf rfl rfl rfl rfl Try.func13 rfl rfl rfl (windows_calls L lw lb lz lzb s A50 N c50 v _ (hrd.keep hS (i := 2) rfl) (hS.keepRd (i := 4) rfl hr50) hvN.symm hMx (by omega) hsv hvl M hM) ?_
      rintro _ w66 ⟨A66, c66, K66, rfl, hr66, h66⟩
      refine ⟨_, rfl, ?_⟩
      rw [wantL_wins L lw lb lz lzb s v M (by omega)] at hr66
      have hS := hS.more h66
      have hS := hS.erase 5
      refine gl_op rfl rfl rfl (op_pure hT rfl) ?_
      refine gl_nil ?_
      intro a ha
      first
        | exact ⟨_, _, _, _, ha.sub ⟨rfl, rfl, rfl, rfl, rfl, trivial⟩, hr66, hS⟩
        | (obtain ⟨rfl, hr⟩ := hr54 (by omega)
           exact ⟨_, _, _, _, ha.sub ⟨rfl, rfl, rfl, rfl, rfl, trivial⟩, hr, hS⟩)
    · try simp only [decide_eq_true_eq, decide_eq_false_iff_not, Bool.not_eq_true', Bool.not_eq_false', Int.not_lt, Int.not_le, Nat.not_lt, Nat.not_le, Bool.true_eq, Bool.false_eq, reduceCtorEq] at c58
      refine gl_un rfl rfl rfl rfl ?_
      refine gl_op rfl rfl rfl (op_fieldB 0 rfl Try.underlying32 rfl el3 rfl rfl) ?_
      refine gl_un rfl rfl rfl rfl ?_
      refine gl_op rfl rfl rfl (op_loadB 3 hT hS rfl rfl rfl rfl rfl rfl) ?_
      refine gl_un rfl rfl rfl rfl ?_
      refine gl_op rfl rfl rfl (op_pure hT rfl) ?_
      refine gl_op rfl rfl rfl (op_pure hT rfl) ?_
      refine gl_nil ?_
      refine hK10 _ _ ?_
      clear hK10; try clear K10
      refine gc_cond rfl rfl (fun c62 => ?_) (fun c62 => ?_)
      · try simp only [decide_eq_true_eq, decide_eq_false_iff_not, Bool.not_eq_true', Bool.not_eq_false', Int.not_lt, Int.not_le, Nat.not_lt, Nat.not_le, Bool.true_eq, Bool.false_eq, reduceCtorEq] at c62
        refine gc_region ?_
        refine gl_op rfl rfl rfl (op_loadG 3 Try.underlying32 rfl el32 hS rfl rfl rfl rfl rfl) ?_
        refine gl_op rfl rfl rfl (op_loadG 1 Try.underlying27 rfl el27 hS rfl rfl rfl rfl rfl) ?_
        refine gl_op rfl rfl rfl (op_pure hT rfl) ?_
        refine gl_callf rfl rfl rfl rfl Try.func13 rfl rfl rfl (windows_calls L lw lb lz lzb s A50 N c50 v _ (hrd.keep hS (i := 2) rfl) (hS.keepRd (i := 4) rfl hr50) hvN.symm hMx (by omega) hsv hvl M hM) ?_
        rintro _ w66 ⟨A66, c66, K66, rfl, hr66, h66⟩
        refine ⟨_, rfl, ?_⟩
        rw [wantL_wins L lw lb lz lzb s v M (by omega)] at hr66
        have hS := hS.more h66
        have hS := hS.erase 5
        refine gl_op rfl rfl rfl (op_pure hT rfl) ?_
        refine gl_nil ?_
        intro a ha
        first
          | exact ⟨_, _, _, _, ha.sub ⟨rfl, rfl, rfl, rfl, rfl, trivial⟩, hr66, hS⟩
          | (obtain ⟨rfl, hr⟩ := hr54 (by omega)
             exact ⟨_, _, _, _, ha.sub ⟨rfl, rfl, rfl, rfl, rfl, trivial⟩, hr, hS⟩)
      · try simp only [decide_eq_true_eq, decide_eq_false_iff_not, Bool.not_eq_true', Bool.not_eq_false', Int.not_lt, Int.not_le, Nat.not_lt, Nat.not_le, Bool.true_eq, Bool.false_eq, reduceCtorEq] at c62
        refine gc_skip ?_
        intro a ha
        first
          | exact ⟨_, _, _, _, ha.sub ⟨rfl, rfl, rfl, rfl, rfl, trivial⟩, hr66, hS⟩
          | (obtain ⟨rfl, hr⟩ := hr54 (by omega)
             exact ⟨_, _, _, _, ha.sub ⟨rfl, rfl, rfl, rfl, rfl, trivial⟩, hr, hS⟩)
  rintro a w1 ⟨A9, c9, K9, w9, hF, hr9, hS⟩
  refine gc_of hF ?_
  clear hF
  refine gc_seq fun K11 hK11 => ?_
  refine gc_region ?_
  refine gl_op rfl rfl rfl (op_loadG 3 Try.underlying32 rfl el32 hS rfl rfl rfl rfl rfl) ?_
  refine gl_op rfl rfl rfl (op_loadG 1 Try.underlying27 rfl el27 hS rfl rfl rfl rfl rfl) ?_
  refine gl_callf rfl rfl rfl rfl Try.func14 rfl rfl rfl (countOk_calls L s _ hLok hs hout M hM) ?_
  rintro _ w70 ⟨rfl, hb70⟩
  refine ⟨_, rfl, ?_⟩
  have hS := hS.grown hb70
  refine gl_op rfl rfl rfl (op_pure hT rfl) ?_
  refine gl_op rfl rfl rfl (op_pure hT rfl) ?_
  refine gl_op rfl rfl rfl (op_pure hT rfl) ?_
  refine gl_op rfl rfl rfl (op_pure hT rfl) ?_
  refine gl_op rfl rfl rfl (op_pure hT rfl) ?_
  refine gl_nil ?_
  refine hK11 _ _ ?_
  clear hK11; try clear K11
  refine gc_seq fun K12 hK12 => ?_
  refine gc_seq fun K13 hK13 => ?_
  refine gc_region ?_
  refine gl_op rfl rfl rfl (op_pure hT rfl) ?_
  refine gl_op rfl rfl rfl (op_pure hT rfl) ?_
  refine gl_op rfl rfl rfl (op_pure hT rfl) ?_
  refine gl_un rfl rfl rfl rfl ?_
  refine gl_op rfl rfl rfl (op_pure hT rfl) ?_
  refine gl_un rfl rfl rfl rfl ?_
  refine gl_op rfl rfl rfl (op_pure hT rfl) ?_
  refine gl_un rfl rfl rfl rfl ?_
  refine gl_op rfl rfl rfl (op_pure hT rfl) ?_
  refine gl_un rfl rfl rfl rfl ?_
  refine gl_op rfl rfl rfl (op_pure hT rfl) ?_
  refine gl_spell 79 (v := .bool false) rfl (by simp) ?_
  refine gl_op rfl rfl rfl (op_pure hT rfl) ?_
  refine gl_op rfl rfl rfl (op_pure hT rfl) ?_
  refine gl_un rfl rfl rfl rfl ?_
  refine gl_callf rfl rfl rfl rfl Try.func7 rfl rfl rfl (told_calls _) ?_
  rintro _ w82 ⟨rfl, hb82⟩
  refine ⟨_, rfl, ?_⟩
  have hS := hS.grown hb82
  refine gl_un rfl rfl rfl rfl ?_
  refine gl_op rfl rfl rfl (op_pure hT rfl) ?_
  refine gl_op rfl rfl rfl (op_pure hT rfl) ?_
  refine gl_nil ?_
  refine hK13 _ _ ?_
  clear hK13; try clear K13
  refine gc_cond_f rfl ?_
  refine gc_skip ?_
  refine hK12 _ _ ?_
  clear hK12; try clear K12
  refine gc_seq fun K14 hK14 => ?_
  refine gc_seq fun K15 hK15 => ?_
  refine gc_region ?_
  refine gl_op rfl rfl rfl (op_pure hT rfl) ?_
  refine gl_nil ?_
  refine hK15 _ _ ?_
  clear hK15; try clear K15
  refine gc_block ?_
  refine gc_loop (fun kk a w' => ∃ (i : Nat), Fr 166 a [(3, .pointer (some ⟨g3, 0, none⟩)), (5, .pointer (some ⟨g5, 0, none⟩)), (7, .int .i64 (N : Nat)), (8, .slice A50 N c50), (9, .slice A9 M c9), (10, .int .i64 (M : Nat)), (12, .int .i64 (i : Nat))] ∧ i ≤ M ∧ kk = M + 1 - i ∧
    St w.heap.size w w' [.blk g2 25 (whC k out kh kw sh sw ph pw seed), .blk g3 27 (shC s), .keep K w22, .blk g5 32 (lyC L), .keep K50 w50, .keep K9 w9]) (M + 1) ?_ ?_ ?_
  · intro a ha; exact ⟨0, ha.sub ⟨rfl, rfl, rfl, rfl, rfl, rfl, rfl, trivial⟩, by omega, by omega, hS⟩
  · rintro a w' ⟨j, _, h1, h2, _⟩; omega
  rintro kk a w1 ⟨i, hF, hj, hkk, hS⟩
  refine gc_of hF ?_
  clear hF
  refine gc_seq fun K16 hK16 => ?_
  refine gc_seq fun K17 hK17 => ?_
  refine gc_region ?_
  refine gl_op rfl rfl rfl (op_pure hT rfl) ?_
  refine gl_op rfl rfl rfl (op_pure hT rfl) ?_
  refine gl_op rfl rfl rfl (op_pure hT rfl) ?_
  refine gl_nil ?_
  refine hK17 _ _ ?_
  clear hK17; try clear K17
  refine gc_cond rfl rfl (fun c87 => ?_) (fun c87 => ?_)
  · try simp only [decide_eq_true_eq, decide_eq_false_iff_not, Bool.not_eq_true', Bool.not_eq_false', Int.not_lt, Int.not_le, Nat.not_lt, Nat.not_le, Bool.true_eq, Bool.false_eq, reduceCtorEq] at c87
    refine gc_skip ?_
    refine hK16 _ _ ?_
    clear hK16; try clear K16
    refine gc_seq fun K18 hK18 => ?_
    refine gc_block ?_
    refine gc_seq fun K19 hK19 => ?_
    refine gc_region ?_
    refine gl_op rfl rfl rfl (op_loadG 3 Try.underlying32 rfl el32 hS rfl rfl rfl rfl rfl) ?_
    refine gl_op rfl rfl rfl (op_loadG 1 Try.underlying27 rfl el27 hS rfl rfl rfl rfl rfl) ?_
    refine gl_op rfl rfl rfl (op_pure hT rfl) ?_
    obtain ⟨R, hRR⟩ : ∃ R, R = rowV L lw lb lz lzb s i := ⟨_, rfl⟩
    obtain ⟨hRe, hRl, hRw, hRs, hRb, hRr⟩ := want_row hMx v (i := (i : Int)) ⟨by omega, by rw [hM]; omega⟩ hRR
    rw [Int.toNat_natCast] at hRw
    have hbI := hRb.toI
    have hwi : (wantL L lw lb lz lzb s v M)[i]? = some (rowS R v) := by
      unfold wantL
      rw [List.getElem?_map, List.getElem?_range (show i < M by omega), ← hRw]
      rfl
    have hcl : R.cols.length ≤ 256 := by
      have hal : ∀ p, p < R.cols.length → (p : Int) ≤ R.cols.getD p 0 := by
        intro p
        induction p with
        | zero =>
          intro hp
          have hx : R.cols[0]? = some (R.cols[0]) := List.getElem?_eq_getElem hp
          have := (hRr 0 _ hx).1.1
          rw [getD_at 0 hx]
          omega
        | succ p ih =>
          intro hp
          have ih := ih (by omega)
          have hx : R.cols[p + 1]? = some (R.cols[p + 1]) := List.getElem?_eq_getElem hp
          have hy : R.cols[p]? = some (R.cols[p]) := List.getElem?_eq_getElem (by omega)
          have h2 := (hRr (p + 1) _ hx).2 _ hy (by omega)
          rw [getD_at 0 hy] at ih
          rw [getD_at 0 hx]
          omega
      rcases Nat.eq_zero_or_pos R.cols.length with h0 | h0
      · omega
      · have h1 := hal (R.cols.length - 1) (by omega)
        have hx : R.cols[R.cols.length - 1]? = some (R.cols[R.cols.length - 1]) := List.getElem?_eq_getElem (by omega)
        have h2 := (hRr _ _ hx).1.2
        rw [getD_at 0 hx] at h1
        omega
    refine gl_callf rfl rfl rfl rfl Try.func15 rfl rfl rfl (rowK_calls L lw lb lz lzb s i _ hLok hs (hrd.keep hS (i := 2) rfl) ⟨by omega, by omega⟩ R hRR) ?_
    rintro _ w94 ⟨A1, c1, A2, c2, K1, rfl, hr1, hr2, h94⟩
    refine ⟨_, rfl, ?_⟩
    have hS := hS.more h94
    refine gl_op rfl rfl rfl (op_pure hT rfl) ?_
    refine gl_op rfl rfl rfl (op_pure hT rfl) ?_
    refine gl_op rfl rfl rfl (op_pure hT rfl) ?_
    refine gl_op rfl rfl rfl (op_pure hT rfl) ?_
    refine gl_op rfl rfl rfl (op_pure hT rfl) ?_
    refine gl_op rfl rfl rfl (op_pure hT rfl) ?_
    refine gl_op rfl rfl rfl (op_pure hT rfl) ?_
    refine gl_op rfl rfl rfl (op_pure hT rfl) ?_
    refine gl_op rfl rfl rfl (op_pure hT rfl) ?_
    refine gl_nil ?_
    refine hK19 _ _ ?_
    clear hK19; try clear K19
    refine gc_seq fun K20 hK20 => ?_
    refine gc_seq fun K21 hK21 => ?_
    refine gc_region ?_
    refine gl_op rfl rfl rfl (op_pure hT rfl) ?_
    refine gl_op rfl rfl rfl (op_pure hT rfl) ?_
    refine gl_spell 100 (v := .bool false) rfl (by rw [hRe]; rfl) ?_
    refine gl_op rfl rfl rfl (op_pure hT rfl) ?_
    refine gl_un rfl rfl rfl rfl ?_
    refine gl_op rfl rfl rfl (op_pure hT rfl) ?_
    refine gl_un rfl rfl rfl rfl ?_
    refine gl_op rfl rfl rfl (op_pure hT rfl) ?_
    refine gl_un rfl rfl rfl rfl ?_
    refine gl_op rfl rfl rfl (op_pure hT rfl) ?_
    refine gl_un rfl rfl rfl rfl ?_
    refine gl_op rfl rfl rfl (op_pure hT rfl) ?_
    refine gl_un rfl rfl rfl rfl ?_
    refine gl_op rfl rfl rfl (op_pure hT rfl) ?_
    refine gl_spell 106 (v := .bool false) rfl (by rw [hRl]; simp) ?_
    refine gl_op rfl rfl rfl (op_pure hT rfl) ?_
    refine gl_nil ?_
    refine hK21 _ _ ?_
    clear hK21; try clear K21
    refine gc_cond_f rfl ?_
    refine gc_skip ?_
    refine hK20 _ _ ?_
    clear hK20; try clear K20
    refine gc_seq fun K22 hK22 => ?_
    refine gc_region ?_
    refine gl_op rfl rfl rfl (op_pure hT rfl) ?_
    refine gl_op rfl rfl rfl (op_f2i hT rfl rfl rfl rfl hbI.1 (by omega)) ?_
    refine gl_op rfl rfl rfl (op_pure hT rfl) ?_
    refine gl_nil ?_
    refine hK22 _ _ ?_
    clear hK22; try clear K22
    refine gc_seq fun K23 hK23 => ?_
    refine gc_seq fun K24 hK24 => ?_
    refine gc_region ?_
    refine gl_op rfl rfl rfl (op_pure hT rfl) ?_
    refine gl_nil ?_
    refine hK24 _ _ ?_
    clear hK24; try clear K24
    refine gc_block ?_
    have hgb : ∀ q, -81 ≤ iF (R.w.getD q 0) * v.getD (R.cols.getD q 0).toNat 0 ∧ iF (R.w.getD q 0) * v.getD (R.cols.getD q 0).toNat 0 ≤ 81 := fun q => by
      refine mul9 ?_ (hsv _)
      rw [List.getD_eq_getElem?_getD]
      cases hq : R.w[q]? with
      | none => exact sm_zero.two.toI.2
      | some u => exact (hRs u (List.mem_of_getElem? hq)).toI.2
    refine gc_loop (fun kk a w' => ∃ (q : Nat), Fr 166 a [(3, .pointer (some ⟨g3, 0, none⟩)), (5, .pointer (some ⟨g5, 0, none⟩)), (7, .int .i64 (N : Nat)), (8, .slice A50 N c50), (9, .slice A9 M c9), (10, .int .i64 (M : Nat)), (12, .int .i64 (i : Nat)), (13, .slice A1 R.cols.length c1), (14, .slice A2 R.w.length c2), (17, .int .i64 (iF R.b + sumN (fun k => iF (R.w.getD k 0) * v.getD (R.cols.getD k 0).toNat 0) q)), (18, .int .i64 (q : Nat))] ∧ q ≤ R.cols.length ∧ kk = R.cols.length + 1 - q ∧
      St w.heap.size w w' [.blk g2 25 (whC k out kh kw sh sw ph pw seed), .blk g3 27 (shC s), .keep K w22, .blk g5 32 (lyC L), .keep K50 w50, .keep K9 w9, .keep K1 w94]) (R.cols.length + 1) ?_ ?_ ?_
    · intro a ha; exact ⟨0, ha.sub ⟨rfl, rfl, rfl, rfl, rfl, rfl, rfl, rfl, rfl, congrArg some (congrArg (Value.int .i64) (Int.add_zero _).symm), rfl, trivial⟩, by omega, by omega, hS⟩
    · rintro a w' ⟨j, _, h1, h2, _⟩; omega
    rintro kk a w1 ⟨q, hF, hq1, hkk, hS⟩
    refine gc_of hF ?_
    clear hF
    have hsm := sumN_abs (B := 81) (n := q) fun q _ => hgb q
    refine gc_seq fun K25 hK25 => ?_
    refine gc_seq fun K26 hK26 => ?_
    refine gc_region ?_
    refine gl_op rfl rfl rfl (op_pure hT rfl) ?_
    refine gl_op rfl rfl rfl (op_pure hT rfl) ?_
    refine gl_op rfl rfl rfl (op_pure hT rfl) ?_
    refine gl_op rfl rfl rfl (op_pure hT rfl) ?_
    refine gl_nil ?_
    refine hK26 _ _ ?_
    clear hK26; try clear K26
    refine gc_cond rfl rfl (fun c113 => ?_) (fun c113 => ?_)
    · try simp only [decide_eq_true_eq, decide_eq_false_iff_not, Bool.not_eq_true', Bool.not_eq_false', Int.not_lt, Int.not_le, Nat.not_lt, Nat.not_le, Bool.true_eq, Bool.false_eq, reduceCtorEq] at c113
      refine gc_skip ?_
      refine hK25 _ _ ?_
      clear hK25; try clear K25
      refine gc_seq fun K27 hK27 => ?_
      refine gc_block ?_
      refine gc_seq fun K28 hK28 => ?_
      refine gc_seq fun K29 hK29 => ?_
      refine gc_anyS hS (by kernel_rfl) rfl fun nq22 hK => ?_
      have hS := hS.dr nq22
      have hql : q < R.cols.length := by omega
      obtain ⟨x, hx⟩ : ∃ x, R.cols[q]? = some x := ⟨_, List.getElem?_eq_getElem hql⟩
      obtain ⟨hxb, hxr⟩ := hRr q x hx
      obtain ⟨ad, hA⟩ := hr1.base hx
      refine ga_take 0 rfl rfl rfl rfl (by kernel_rfl) (fun _ _ _ _ _ h => h) hK (fun w1 hS => op_pure hT rfl) ?_
      refine ga_take 1 rfl rfl rfl rfl (by kernel_rfl) (fun _ _ _ _ _ h => h) hK (fun w1 hS => op_pure hT rfl) ?_
      refine ga_take 2 rfl rfl rfl rfl (by kernel_rfl) (fun _ _ _ _ _ h => h) hK (fun w1 hS => op_indexAddr hT rfl rfl el3.cellsOf.1 el3.cellsOf.2 rfl rfl (by omega) (by omega) hA) ?_
      refine ga_spell 118 (v := .pointer (some (ad.add q))) rfl (by rw [Int.toNat_natCast, Nat.mul_one]) ?_
      refine ga_take 3 rfl rfl rfl rfl (by kernel_rfl) (fun _ _ _ _ _ h => h) hK (fun w1 hS => op_load hT rfl rfl rfl rfl (RdE.cellN (hS.keepRd (i := 6) rfl hr1) hA hx)) ?_
      refine ga_take 4 rfl rfl rfl rfl (by kernel_rfl) (fun _ _ _ _ _ h => h) hK (fun w1 hS => op_pure hT rfl) ?_
      refine ga_spell 120 (v := .bool false) rfl (by congr 1; simp; omega) ?_
      refine ga_take 5 rfl rfl rfl rfl (by kernel_rfl) (fun _ _ _ _ _ h => h) hK (fun w1 hS => op_pure hT rfl) ?_
      refine ga_take_at 6 rfl rfl rfl rfl rfl rfl rfl (by kernel_rfl) (fun _ _ _ _ _ h => h) hK (fun w1 hS => op_pure hT rfl) ?_
      refine ga_take_at 7 rfl rfl rfl rfl rfl rfl rfl (by kernel_rfl) (fun _ _ _ _ _ h => h) hK (fun w1 hS => op_pure hT rfl) ?_
      refine ga_take_at 8 rfl rfl rfl rfl rfl rfl rfl (by kernel_rfl) (fun _ _ _ _ _ h => h) hK (fun w1 hS => op_indexAddr hT rfl rfl el3.cellsOf.1 el3.cellsOf.2 rfl rfl (by omega) (by omega) hA) ?_
      refine ga_spell 124 (v := .pointer (some (ad.add q))) rfl (by rw [Int.toNat_natCast, Nat.mul_one]) ?_
      refine ga_take_at 9 rfl rfl rfl rfl rfl rfl rfl (by kernel_rfl) (fun _ _ _ _ _ h => h) hK (fun w1 hS => op_load hT rfl rfl rfl rfl (RdE.cellN (hS.keepRd (i := 6) rfl hr1) hA hx)) ?_
      refine ga_take_at 10 rfl rfl rfl rfl rfl rfl rfl (by kernel_rfl) (fun _ _ _ _ _ h => h) hK (fun w1 hS => op_pure hT rfl) ?_
      refine ga_take_at 11 rfl rfl rfl rfl rfl rfl rfl (by kernel_rfl) (fun _ _ _ _ _ h => h) hK (fun w1 hS => op_pure hT rfl) ?_
      refine ga_spell 127 (v := .bool false) rfl (by congr 1; simp; omega) ?_
      refine ga_take 12 rfl rfl rfl rfl (by kernel_rfl) (fun _ _ _ _ _ h => h) hK (fun w1 hS => op_pure hT rfl) ?_
      refine ga_take 13 rfl rfl rfl rfl (by kernel_rfl) (fun _ _ _ _ _ h => h) hK (fun w1 hS => op_pure hT rfl) ?_
      refine ga_take_at 14 rfl rfl rfl rfl rfl rfl rfl (by kernel_rfl) (fun _ _ _ _ _ h => h) hK (fun w1 hS => op_pure hT rfl) ?_
      refine ga_take_at 15 rfl rfl rfl rfl rfl rfl rfl (by kernel_rfl) (fun _ _ _ _ _ h => h) hK (fun w1 hS => op_pure hT rfl) ?_
      refine ga_take_at 16 rfl rfl rfl rfl rfl rfl rfl (by kernel_rfl) (fun _ _ _ _ _ h => h) hK (fun w1 hS => op_pure hT rfl) ?_
      refine ga_split (t := 132) rfl (fun c132 => ?_) (fun c132 => ?_)
      · try simp only [decide_eq_true_eq, decide_eq_false_iff_not, Bool.not_eq_true', Bool.not_eq_false', Int.not_lt, Int.not_le, Nat.not_lt, Nat.not_le, Bool.true_eq, Bool.false_eq, reduceCtorEq] at c132
        obtain ⟨y, hy⟩ : ∃ y, R.cols[q - 1]? = some y := ⟨_, List.getElem?_eq_getElem (by omega)⟩
        have hyx := hxr y hy (by omega)
        have hq1e : ((q : Int) - 1) = ((q - 1 : Nat) : Int) := by omega
        refine ga_take_at 17 rfl rfl rfl rfl rfl rfl rfl (by kernel_rfl) (fun _ _ _ _ _ h => h) hK (fun w1 hS => op_pure hT rfl) ?_
        refine ga_take_at 18 rfl rfl rfl rfl rfl rfl rfl (by kernel_rfl) (fun _ _ _ _ _ h => h) hK (fun w1 hS => op_pure hT rfl) ?_
        refine ga_take_at 19 rfl rfl rfl rfl rfl rfl rfl (by kernel_rfl) (fun _ _ _ _ _ h => h) hK (fun w1 hS => op_indexAddr hT rfl rfl el3.cellsOf.1 el3.cellsOf.2 rfl rfl (by omega) (by omega) hA) ?_
        refine ga_spell 135 (v := .pointer (some (ad.add q))) rfl (by rw [Int.toNat_natCast, Nat.mul_one]) ?_
        refine ga_take_at 20 rfl rfl rfl rfl rfl rfl rfl (by kernel_rfl) (fun _ _ _ _ _ h => h) hK (fun w1 hS => op_load hT rfl rfl rfl rfl (RdE.cellN (hS.keepRd (i := 6) rfl hr1) hA hx)) ?_
        refine ga_take_at 21 rfl rfl rfl rfl rfl rfl rfl (by kernel_rfl) (fun _ _ _ _ _ h => h) hK (fun w1 hS => op_pure hT rfl) ?_
        refine ga_take_at 22 rfl rfl rfl rfl rfl rfl rfl (by kernel_rfl) (fun _ _ _ _ _ h => h) hK (fun w1 hS => op_pure hT rfl) ?_
        refine ga_take_at 23 rfl rfl rfl rfl rfl rfl rfl (by kernel_rfl) (fun _ _ _ _ _ h => h) hK (fun w1 hS => (by first | exact op_fit hT rfl (by omega) | exact op_pure hT rfl)) ?_
        refine ga_take_at 24 rfl rfl rfl rfl rfl rfl rfl (by kernel_rfl) (fun _ _ _ _ _ h => h) hK (fun w1 hS => op_indexAddr hT rfl rfl el3.cellsOf.1 el3.cellsOf.2 rfl rfl (by omega) (by omega) hA) ?_
        refine ga_spell 140 (v := .pointer (some (ad.add (q - 1)))) rfl (by rw [hq1e, Int.toNat_natCast, Nat.mul_one]) ?_
        refine ga_take_at 25 rfl rfl rfl rfl rfl rfl rfl (by kernel_rfl) (fun _ _ _ _ _ h => h) hK (fun w1 hS => op_load hT rfl rfl rfl rfl (RdE.cellN (hS.keepRd (i := 6) rfl hr1) hA hy)) ?_
        refine ga_take_at 26 rfl rfl rfl rfl rfl rfl rfl (by kernel_rfl) (fun _ _ _ _ _ h => h) hK (fun w1 hS => op_pure hT rfl) ?_
        refine ga_spell 142 (v := .bool false) rfl (by congr 1; simp; omega) ?_
        refine ga_take_at 27 rfl rfl rfl rfl rfl rfl rfl (by kernel_rfl) (fun _ _ _ _ _ h => h) hK (fun w1 hS => op_pure hT rfl) ?_
        refine ga_take 28 rfl rfl rfl rfl (by kernel_rfl) (fun _ _ _ _ _ h => h) hK (fun w1 hS => op_pure hT rfl) ?_
        refine ga_done (by kernel_rfl) ?_
        refine hK29 _ _ ?_
        clear hK29; try clear K29
        refine gc_cond_f rfl ?_
        refine gc_skip ?_
        refine hK28 _ _ ?_
        clear hK28; try clear K28
        refine gc_anyS hS (by kernel_rfl) rfl fun nq24 hK => ?_
        have hS := hS.dr nq24
        obtain ⟨u, hu⟩ : ∃ u, R.w[q]? = some u := ⟨_, List.getElem?_eq_getElem (by omega)⟩
        obtain ⟨ad2, hA2⟩ := hr2.base hu
        have huI := (hRs u (List.mem_of_getElem? hu)).toI
        obtain ⟨y, hy⟩ : ∃ y, v[x.toNat]? = some y := ⟨_, List.getElem?_eq_getElem (by omega)⟩
        obtain ⟨ad3, hA3⟩ := hr50.base hy
        have hgq := hgb q
        rw [getD_at 0 hu, getD_at 0 hx, getD_at 0 hy] at hgq
        have hterm : iF (R.w.getD q 0) * v.getD (R.cols.getD q 0).toNat 0 = iF u * y := by rw [getD_at 0 hu, getD_at 0 hx, getD_at 0 hy]
        refine ga_take 0 rfl rfl rfl rfl (by kernel_rfl) (fun _ _ _ _ _ h => h) hK (fun w1 hS => op_pure hT rfl) ?_
        refine ga_take 1 rfl rfl rfl rfl (by kernel_rfl) (fun _ _ _ _ _ h => h) hK (fun w1 hS => op_pure hT rfl) ?_
        refine ga_take 2 rfl rfl rfl rfl (by kernel_rfl) (fun _ _ _ _ _ h => h) hK (fun w1 hS => op_pure hT rfl) ?_
        refine ga_take 3 rfl rfl rfl rfl (by kernel_rfl) (fun _ _ _ _ _ h => h) hK (fun w1 hS => op_indexAddr hT rfl rfl el28.cellsOf.1 el28.cellsOf.2 rfl rfl (by omega) (by omega) hA2) ?_
        refine ga_spell 148 (v := .pointer (some (ad2.add q))) rfl (by rw [Int.toNat_natCast, Nat.mul_one]) ?_
        refine ga_take 4 rfl rfl rfl rfl (by kernel_rfl) (fun _ _ _ _ _ h => h) hK (fun w1 hS => op_load hT rfl rfl rfl rfl (RdE.cellN (hS.keepRd (i := 6) rfl hr2) hA2 hu)) ?_
        refine ga_take 5 rfl rfl rfl rfl (by kernel_rfl) (fun _ _ _ _ _ h => h) hK (fun w1 hS => op_f2i hT rfl rfl rfl rfl huI.1 (by omega)) ?_
        refine ga_take 6 rfl rfl rfl rfl (by kernel_rfl) (fun _ _ _ _ _ h => h) hK (fun w1 hS => op_pure hT rfl) ?_
        refine ga_take 7 rfl rfl rfl rfl (by kernel_rfl) (fun _ _ _ _ _ h => h) hK (fun w1 hS => op_pure hT rfl) ?_
        refine ga_take 8 rfl rfl rfl rfl (by kernel_rfl) (fun _ _ _ _ _ h => h) hK (fun w1 hS => op_pure hT rfl) ?_
        refine ga_take 9 rfl rfl rfl rfl (by kernel_rfl) (fun _ _ _ _ _ h => h) hK (fun w1 hS => op_indexAddr hT rfl rfl el3.cellsOf.1 el3.cellsOf.2 rfl rfl (by omega) (by omega) hA) ?_
        refine ga_spell 154 (v := .pointer (some (ad.add q))) rfl (by rw [Int.toNat_natCast, Nat.mul_one]) ?_
        refine ga_take 10 rfl rfl rfl rfl (by kernel_rfl) (fun _ _ _ _ _ h => h) hK (fun w1 hS => op_load hT rfl rfl rfl rfl (RdE.cellN (hS.keepRd (i := 6) rfl hr1) hA hx)) ?_
        refine ga_take 11 rfl rfl rfl rfl (by kernel_rfl) (fun _ _ _ _ _ h => h) hK (fun w1 hS => op_indexAddr hT rfl rfl el3.cellsOf.1 el3.cellsOf.2 rfl rfl (by omega) (by omega) hA3) ?_
        refine ga_spell 156 (v := .pointer (some (ad3.add x.toNat))) rfl (by rw [Nat.mul_one]) ?_
        refine ga_take 12 rfl rfl rfl rfl (by kernel_rfl) (fun _ _ _ _ _ h => h) hK (fun w1 hS => op_load hT rfl rfl rfl rfl (RdE.cellN (hS.keepRd (i := 4) rfl hr50) hA3 hy)) ?_
        refine ga_take 13 rfl rfl rfl rfl (by kernel_rfl) (fun _ _ _ _ _ h => h) hK (fun w1 hS => (by first | exact op_fit hT rfl (by omega) | exact op_pure hT rfl)) ?_
        refine ga_take 14 rfl rfl rfl rfl (by kernel_rfl) (fun _ _ _ _ _ h => h) hK (fun w1 hS => (by first | exact op_fit hT rfl (by omega) | exact op_pure hT rfl)) ?_
        refine ga_spell 159 (v := .int .i64 (iF R.b + sumN (fun k => iF (R.w.getD k 0) * v.getD (R.cols.getD k 0).toNat 0) (q + 1))) rfl (by show Value.int .i64 _ = Value.int .i64 (_ + (_ + iF (R.w.getD q 0) * v.getD (R.cols.getD q 0).toNat 0)); rw [hterm, ← Int.add_assoc]) ?_
        refine ga_take 15 rfl rfl rfl rfl (by kernel_rfl) (fun _ _ _ _ _ h => h) hK (fun w1 hS => op_pure hT rfl) ?_
        refine ga_done (by kernel_rfl) ?_
        refine hK27 _ _ ?_
        clear hK27; try clear K27
        refine gc_region ?_
        refine gl_op rfl rfl rfl (op_pure hT rfl) ?_
        first | refine gl_fit hT rfl rfl rfl rfl (by omega) ?_ | refine gl_op rfl rfl rfl (op_pure hT rfl) ?_
        refine gl_op rfl rfl rfl (op_pure hT rfl) ?_
        refine gl_nil ?_
        intro a ha
        exact ⟨q + 1, ha.sub ⟨rfl, rfl, rfl, rfl, rfl, rfl, rfl, rfl, rfl, rfl, rfl, trivial⟩, by omega, by omega, hS⟩
      · try simp only [decide_eq_true_eq, decide_eq_false_iff_not, Bool.not_eq_true', Bool.not_eq_false', Int.not_lt, Int.not_le, Nat.not_lt, Nat.not_le, Bool.true_eq, Bool.false_eq, reduceCtorEq] at c132
        refine ga_pass 17 rfl rfl rfl rfl rfl rfl rfl (by kernel_rfl) (fun _ _ _ _ _ h => h) hK ?_
        refine ga_pass 18 rfl rfl rfl rfl rfl rfl rfl (by kernel_rfl) (fun _ _ _ _ _ h => h) hK ?_
        refine ga_pass 19 rfl rfl rfl rfl rfl rfl rfl (by kernel_rfl) (fun _ _ _ _ _ h => h) hK ?_
        refine ga_pass 20 rfl rfl rfl rfl rfl rfl rfl (by kernel_rfl) (fun _ _ _ _ _ h => h) hK ?_
        refine ga_pass 21 rfl rfl rfl rfl rfl rfl rfl (by kernel_rfl) (fun _ _ _ _ _ h => h) hK ?_
        refine ga_pass 22 rfl rfl rfl rfl rfl rfl rfl (by kernel_rfl) (fun _ _ _ _ _ h => h) hK ?_
        refine ga_pass 23 rfl rfl rfl rfl rfl rfl rfl (by kernel_rfl) (fun _ _ _ _ _ h => h) hK ?_
        refine ga_pass 24 rfl rfl rfl rfl rfl rfl rfl (by kernel_rfl) (fun _ _ _ _ _ h => h) hK ?_
        refine ga_pass 25 rfl rfl rfl rfl rfl rfl rfl (by kernel_rfl) (fun _ _ _ _ _ h => h) hK ?_
        refine ga_pass 26 rfl rfl rfl rfl rfl rfl rfl (by kernel_rfl) (fun _ _ _ _ _ h => h) hK ?_
        refine ga_take_at 27 rfl rfl rfl rfl rfl rfl rfl (by kernel_rfl) (fun _ _ _ _ _ h => h) hK (fun w1 hS => op_pure hT rfl) ?_
        refine ga_take 28 rfl rfl rfl rfl (by kernel_rfl) (fun _ _ _ _ _ h => h) hK (fun w1 hS => op_pure hT rfl) ?_
        refine ga_done (by kernel_rfl) ?_
        refine hK29 _ _ ?_
        clear hK29; try clear K29
        refine gc_cond_f rfl ?_
        refine gc_skip ?_
        refine hK28 _ _ ?_
        clear hK28; try clear K28
        refine gc_anyS hS (by kernel_rfl) rfl fun nq24 hK => ?_
        have hS := hS.dr nq24
        obtain ⟨u, hu⟩ : ∃ u, R.w[q]? = some u := ⟨_, List.getElem?_eq_getElem (by omega)⟩
        obtain ⟨ad2, hA2⟩ := hr2.base hu
        have huI := (hRs u (List.mem_of_getElem? hu)).toI
        obtain ⟨y, hy⟩ : ∃ y, v[x.toNat]? = some y := ⟨_, List.getElem?_eq_getElem (by omega)⟩
        obtain ⟨ad3, hA3⟩ := hr50.base hy
        have hgq := hgb q
        rw [getD_at 0 hu, getD_at 0 hx, getD_at 0 hy] at hgq
        have hterm : iF (R.w.getD q 0) * v.getD (R.cols.getD q 0).toNat 0 = iF u * y := by rw [getD_at 0 hu, getD_at 0 hx, getD_at 0 hy]
        refine ga_take 0 rfl rfl rfl rfl (by kernel_rfl) (fun _ _ _ _ _ h => h) hK (fun w1 hS => op_pure hT rfl) ?_
        refine ga_take 1 rfl rfl rfl rfl (by kernel_rfl) (fun _ _ _ _ _ h => h) hK (fun w1 hS => op_pure hT rfl) ?_
        refine ga_take 2 rfl rfl rfl rfl (by kernel_rfl) (fun _ _ _ _ _ h => h) hK (fun w1 hS => op_pure hT rfl) ?_
        refine ga_take 3 rfl rfl rfl rfl (by kernel_rfl) (fun _ _ _ _ _ h => h) hK (fun w1 hS => op_indexAddr hT rfl rfl el28.cellsOf.1 el28.cellsOf.2 rfl rfl (by omega) (by omega) hA2) ?_
        refine ga_spell 148 (v := .pointer (some (ad2.add q))) rfl (by rw [Int.toNat_natCast, Nat.mul_one]) ?_
        refine ga_take 4 rfl rfl rfl rfl (by kernel_rfl) (fun _ _ _ _ _ h => h) hK (fun w1 hS => op_load hT rfl rfl rfl rfl (RdE.cellN (hS.keepRd (i := 6) rfl hr2) hA2 hu)) ?_
        refine ga_take 5 rfl rfl rfl rfl (by kernel_rfl) (fun _ _ _ _ _ h => h) hK (fun w1 hS => op_f2i hT rfl rfl rfl rfl huI.1 (by omega)) ?_
        refine ga_take 6 rfl rfl rfl rfl (by kernel_rfl) (fun _ _ _ _ _ h => h) hK (fun w1 hS => op_pure hT rfl) ?_
        refine ga_take 7 rfl rfl rfl rfl (by kernel_rfl) (fun _ _ _ _ _ h => h) hK (fun w1 hS => op_pure hT rfl) ?_
        refine ga_take 8 rfl rfl rfl rfl (by kernel_rfl) (fun _ _ _ _ _ h => h) hK (fun w1 hS => op_pure hT rfl) ?_
        refine ga_take 9 rfl rfl rfl rfl (by kernel_rfl) (fun _ _ _ _ _ h => h) hK (fun w1 hS => op_indexAddr hT rfl rfl el3.cellsOf.1 el3.cellsOf.2 rfl rfl (by omega) (by omega) hA) ?_
        refine ga_spell 154 (v := .pointer (some (ad.add q))) rfl (by rw [Int.toNat_natCast, Nat.mul_one]) ?_
        refine ga_take 10 rfl rfl rfl rfl (by kernel_rfl) (fun _ _ _ _ _ h => h) hK (fun w1 hS => op_load hT rfl rfl rfl rfl (RdE.cellN (hS.keepRd (i := 6) rfl hr1) hA hx)) ?_
        refine ga_take 11 rfl rfl rfl rfl (by kernel_rfl) (fun _ _ _ _ _ h => h) hK (fun w1 hS => op_indexAddr hT rfl rfl el3.cellsOf.1 el3.cellsOf.2 rfl rfl (by omega) (by omega) hA3) ?_
        refine ga_spell 156 (v := .pointer (some (ad3.add x.toNat))) rfl (by rw [Nat.mul_one]) ?_
        refine ga_take 12 rfl rfl rfl rfl (by kernel_rfl) (fun _ _ _ _ _ h => h) hK (fun w1 hS => op_load hT rfl rfl rfl rfl (RdE.cellN (hS.keepRd (i := 4) rfl hr50) hA3 hy)) ?_
        refine ga_take 13 rfl rfl rfl rfl (by kernel_rfl) (fun _ _ _ _ _ h => h) hK (fun w1 hS => (by first | exact op_fit hT rfl (by omega) | exact op_pure hT rfl)) ?_
        refine ga_take 14 rfl rfl rfl rfl (by kernel_rfl) (fun _ _ _ _ _ h => h) hK (fun w1 hS => (by first | exact op_fit hT rfl (by omega) | exact op_pure hT rfl)) ?_
        refine ga_spell 159 (v := .int .i64 (iF R.b + sumN (fun k => iF (R.w.getD k 0) * v.getD (R.cols.getD k 0).toNat 0) (q + 1))) rfl (by show Value.int .i64 _ = Value.int .i64 (_ + (_ + iF (R.w.getD q 0) * v.getD (R.cols.getD q 0).toNat 0)); rw [hterm, ← Int.add_assoc]) ?_
        refine ga_take 15 rfl rfl rfl rfl (by kernel_rfl) (fun _ _ _ _ _ h => h) hK (fun w1 hS => op_pure hT rfl) ?_
        refine ga_done (by kernel_rfl) ?_
        refine hK27 _ _ ?_
        clear hK27; try clear K27
        refine gc_region ?_
        refine gl_op rfl rfl rfl (op_pure hT rfl) ?_
        first | refine gl_fit hT rfl rfl rfl rfl (by omega) ?_ | refine gl_op rfl rfl rfl (op_pure hT rfl) ?_
        refine gl_op rfl rfl rfl (op_pure hT rfl) ?_
        refine gl_nil ?_
        intro a ha
        exact ⟨q + 1, ha.sub ⟨rfl, rfl, rfl, rfl, rfl, rfl, rfl, rfl, rfl, rfl, rfl, trivial⟩, by omega, by omega, hS⟩
    · try simp only [decide_eq_true_eq, decide_eq_false_iff_not, Bool.not_eq_true', Bool.not_eq_false', Int.not_lt, Int.not_le, Nat.not_lt, Nat.not_le, Bool.true_eq, Bool.false_eq, reduceCtorEq] at c113
      have hqe : q = R.w.length := by omega
      subst hqe
      obtain ⟨ad9, hA9⟩ := hr9.base hwi
      refine gc_exit ?_
      refine hK23 _ _ ?_
      clear hK23; try clear K23
      refine gc_seq fun K30 hK30 => ?_
      refine gc_region ?_
      refine gl_op rfl rfl rfl (op_pure hT rfl) ?_
      refine gl_op rfl rfl rfl (op_pure hT rfl) ?_
      refine gl_op rfl rfl rfl (op_pure hT rfl) ?_
      refine gl_op rfl rfl rfl (op_indexAddr hT rfl rfl el3.cellsOf.1 el3.cellsOf.2 rfl rfl (by omega) (by omega) hA9) ?_
      refine gl_spell 163 (v := .pointer (some (ad9.add i))) rfl (by rw [Int.toNat_natCast, Nat.mul_one]) ?_
      refine gl_op rfl rfl rfl (op_load hT rfl rfl rfl rfl (RdE.cellN (hS.keepRd (i := 5) rfl hr9) hA9 hwi)) ?_
      refine gl_op rfl rfl rfl (op_pure hT rfl) ?_
      refine gl_spell 165 (v := .bool false) rfl (by unfold rowS; simp) ?_
      refine gl_nil ?_
      refine hK30 _ _ ?_
      clear hK30; try clear K30
      refine gc_cond_f rfl ?_
      refine gc_skip ?_
      refine hK18 _ _ ?_
      clear hK18; try clear K18
      refine gc_region ?_
      refine gl_op rfl rfl rfl (op_pure hT rfl) ?_
      first | refine gl_fit hT rfl rfl rfl rfl (by omega) ?_ | refine gl_op rfl rfl rfl (op_pure hT rfl) ?_
      refine gl_op rfl rfl rfl (op_pure hT rfl) ?_
      refine gl_nil ?_
      intro a ha
      have hS := hS.pre 6
      exact ⟨i + 1, ha.sub ⟨rfl, rfl, rfl, rfl, rfl, rfl, rfl, trivial⟩, by omega, by omega, hS⟩
  · try simp only [decide_eq_true_eq, decide_eq_false_iff_not, Bool.not_eq_true', Bool.not_eq_false', Int.not_lt, Int.not_le, Nat.not_lt, Nat.not_le, Bool.true_eq, Bool.false_eq, reduceCtorEq] at c87
    refine gc_exit ?_
    refine hK14 _ _ ?_
    clear hK14; try clear K14
    refine gc_seq fun K31 hK31 => ?_
    refine gc_region ?_
    refine gl_op rfl rfl rfl (op_pure hT rfl) ?_
    refine gl_nil ?_
    refine hK31 _ _ ?_
    clear hK31; try clear K31
    refine gc_ret ?_
    try simp only [x_then_ret, x_block_ret]
    refine gk_ret1 rfl rfl ?_
    exact ⟨rfl, hS.below⟩
end Go.Proofs.Ytkfhablonnjgeaa
