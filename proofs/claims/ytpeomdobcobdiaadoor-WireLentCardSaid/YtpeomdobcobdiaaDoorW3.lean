/- Contracts of functions that make bytes, more. No condition. -/
import Derived.Test.YtpeomdobcobdiaaDoorW2
namespace Go.Proofs.YtpeomdobcobdiaaDoor
open Go.RowKit
set_option linter.unusedVariables false
set_option linter.unusedSimpArgs false
theorem Clip_calls (A : Option Addr) (c n : Nat) (h : n ≤ c) (w : World) :
    Calls Tryd.prog 51 ⟨[.slice A n c]⟩ w fun e w' => e = .returned (.slice A n n) ∧ Eqv w w' := by
  refine gc_enter (N := 9) Tryd.func51 rfl rfl rfl [(0, _)] rfl ?_
  refine gc_seq fun K1 hK1 => ?_
  refine gc_region ?_
  refine gl_op rfl rfl rfl (op_pure hT rfl) ?_
  refine gl_nil ?_
  refine hK1 _ _ ?_
  clear hK1; try clear K1
  refine gc_seq fun K2 hK2 => ?_
  refine gc_region ?_
  refine gl_op rfl rfl rfl (op_pure hT rfl) ?_
  refine gl_op rfl rfl rfl (op_pure hT rfl) ?_
  refine gl_op rfl rfl rfl (op_pure hT rfl) ?_
  refine gl_op rfl rfl rfl (op_pure hT rfl) ?_
  refine gl_op rfl rfl rfl (op_pure hT rfl) ?_
  refine gl_op rfl rfl rfl (op_slice_hm hT el5 rfl rfl rfl rfl rfl (by first | omega | (simp; omega)) (by first | omega | (simp; omega)) (by first | omega | (simp; omega))) ?_
  refine gl_op rfl rfl rfl (op_pure hT rfl) ?_
  refine gl_nil ?_
  refine hK2 _ _ ?_
  clear hK2; try clear K2
  refine gc_ret ?_
  try simp only [x_then_ret, x_block_ret]
  refine gk_ret1 rfl rfl ?_
  exact ⟨rfl, Eqv.refl _⟩
theorem Intact_calls (A A2 : Option Addr) (c c2 : Nat) (l l3 l2 : List UInt8) (w : World) {ok ok2 : Nat → Prop} (h1 : RdE w ok uB A (l ++ l3)) (h3 : l3.length = 3) (hc : l.length + 3 ≤ c) (hb : l.length ≤ 9223372036854775000) (h2 : RdE w ok2 uB A2 l2) :
    Calls Tryd.prog 22 ⟨[.slice A l.length c, .slice A2 l2.length c2]⟩ w fun e w' => e = .returned (.bool (decide (l = l2 ∧ l3 = [201, 202, 203]))) ∧ Below w.heap.size w w' := by
  refine gc_enter (N := 21) Tryd.func22 rfl rfl rfl [(0, _), (1, _)] rfl ?_
  have hS := St.start w
  refine gc_seq fun K1 hK1 => ?_
  refine gc_region ?_
  refine gl_op rfl rfl rfl (op_pure hT rfl) ?_
  refine gl_nil ?_
  refine hK1 _ _ ?_
  clear hK1; try clear K1
  refine gc_seq fun K2 hK2 => ?_
  refine gc_region ?_
  refine gl_op rfl rfl rfl (op_pure hT rfl) ?_
  refine gl_op rfl rfl rfl (op_pure hT rfl) ?_
  refine gl_op rfl rfl rfl (op_pure hT rfl) ?_
  refine gl_nil ?_
  refine hK2 _ _ ?_
  clear hK2; try clear K2
  refine gc_seq fun K3 hK3 => ?_
  refine gc_region ?_
  refine gl_op rfl rfl rfl (op_pure hT rfl) ?_
  refine gl_op rfl rfl rfl (op_pure hT rfl) ?_
  refine gl_callf rfl rfl rfl rfl Tryd.func18 rfl rfl rfl (Same_calls _ _ _ _ l l2 _ (by have := h1.take l.length; rwa [List.take_left] at this) h2 (by omega)) ?_
  rintro _ _ ⟨rfl, n10, rfl⟩
  refine ⟨_, rfl, ?_⟩
  have hS := hS.dr n10
  refine gl_op rfl rfl rfl (op_pure hT rfl) ?_
  refine gl_split (t := 11) rfl (fun c11 => ?_) (fun c11 => ?_)
  · try simp only [decide_eq_true_eq, decide_eq_false_iff_not, Bool.not_eq_true', Bool.not_eq_false', Int.not_lt, Int.not_le, Nat.not_lt, Nat.not_le, Bool.true_eq, Bool.false_eq, reduceCtorEq] at c11
    subst c11
    refine gl_un rfl rfl rfl rfl ?_
    refine gl_op rfl rfl rfl (op_pure hT rfl) ?_
    refine gl_un rfl rfl rfl rfl ?_
    refine gl_op rfl rfl rfl (op_pure hT rfl) ?_
    refine gl_un rfl rfl rfl rfl ?_
    first | refine gl_fit hT rfl rfl rfl rfl (by omega) ?_ | refine gl_op rfl rfl rfl (op_pure hT rfl) ?_
    refine gl_un rfl rfl rfl rfl ?_
    refine gl_op rfl rfl rfl (op_slice_h hT el5 rfl rfl rfl rfl (by first | omega | (simp; omega)) (by first | omega | (simp; omega))) ?_
    refine gl_un rfl rfl rfl rfl ?_
    refine gl_op rfl rfl rfl (op_pure hT rfl) ?_
    refine gl_un rfl rfl rfl rfl ?_
    refine gl_op rfl rfl rfl (op_slice_l hT el5 rfl rfl rfl rfl (by omega) (by simp; omega)) ?_
    refine gl_spell 17 (v := .slice (if c = l.length then A else A.map (·.add (l.length * 1))) l3.length (c - l.length)) rfl ?_ ?_
    · simp only [h3]; congr 1; omega
    refine gl_un rfl rfl rfl rfl ?_
    refine gl_lit hT hS el5 rfl rfl rfl rfl rfl rfl rfl rfl rfl fun g18 w18 hS => ?_
    refine gl_un rfl rfl rfl rfl ?_
    refine gl_callf rfl rfl rfl rfl Tryd.func18 rfl rfl rfl (Same_calls _ _ _ _ l3 [201, 202, 203] _ (by have hd := (RdE.old h1 hS).drop (k := l.length) (cap := c) (by simp) (by simp; omega); rwa [List.drop_left] at hd) (hS.rdE (l := [201, 202, 203]) (i := 0) rfl) (by omega)) ?_
    rintro _ _ ⟨rfl, n19, rfl⟩
    refine ⟨_, rfl, ?_⟩
    have hS := hS.dr n19
    refine gl_op rfl rfl rfl (op_pure hT rfl) ?_
    refine gl_op rfl rfl rfl (op_pure hT rfl) ?_
    refine gl_nil ?_
    refine hK3 _ _ ?_
    clear hK3; try clear K3
    refine gc_ret ?_
    try simp only [x_then_ret, x_block_ret]
    refine gk_ret1 rfl rfl ?_
    exact ⟨by simp, hS.below⟩
  · try simp only [decide_eq_true_eq, decide_eq_false_iff_not, Bool.not_eq_true', Bool.not_eq_false', Int.not_lt, Int.not_le, Nat.not_lt, Nat.not_le, Bool.true_eq, Bool.false_eq, reduceCtorEq] at c11
    refine gl_pass rfl rfl rfl rfl rfl rfl ?_
    refine gl_pass rfl rfl rfl rfl rfl rfl ?_
    refine gl_pass rfl rfl rfl rfl rfl rfl ?_
    refine gl_pass rfl rfl rfl rfl rfl rfl ?_
    refine gl_pass rfl rfl rfl rfl rfl rfl ?_
    refine gl_pass rfl rfl rfl rfl rfl rfl ?_
    refine gl_pass rfl rfl rfl rfl rfl rfl ?_
    refine gl_pass rfl rfl rfl rfl rfl rfl ?_
    refine gl_op rfl rfl rfl (op_pure hT rfl) ?_
    refine gl_op rfl rfl rfl (op_pure hT rfl) ?_
    refine gl_nil ?_
    refine hK3 _ _ ?_
    clear hK3; try clear K3
    refine gc_ret ?_
    try simp only [x_then_ret, x_block_ret]
    refine gk_ret1 rfl rfl ?_
    exact ⟨by simp [c11], hS.below⟩
theorem Uint_calls (n : Int) (hn : n ≤ 9223372036854775807) (w : World) :
    Calls Tryd.prog 16 ⟨[.int .i64 n]⟩ w fun e w' => ∃ A c, e = .returned (.tuple #[.slice A (uintV n).1.length c, .int .i64 (uintV n).2]) ∧
      Owns w' w.heap.size A c 5 1 (uintV n).1.length ((uintV n).1.map uB) ∧ Below w.heap.size w w' := by
  refine gc_enter (N := 23) Tryd.func16 rfl rfl rfl [(0, _)] rfl ?_
  have hS := St.start w
  refine gc_seq fun K1 hK1 => ?_
  refine gc_region ?_
  refine gl_op rfl rfl rfl (op_pure hT rfl) ?_
  refine gl_op rfl rfl rfl (op_pure hT rfl) ?_
  refine gl_nil ?_
  refine hK1 _ _ ?_
  clear hK1; try clear K1
  refine gc_seq fun K2 hK2 => ?_
  refine gc_seq fun K3 hK3 => ?_
  refine gc_region ?_
  refine gl_op rfl rfl rfl (op_pure hT rfl) ?_
  refine gl_op rfl rfl rfl (op_pure hT rfl) ?_
  refine gl_nil ?_
  refine hK3 _ _ ?_
  clear hK3; try clear K3
  refine gc_cond rfl rfl (fun c6 => ?_) (fun c6 => ?_)
  · try simp only [decide_eq_true_eq, decide_eq_false_iff_not, Bool.not_eq_true', Bool.not_eq_false', Int.not_lt, Int.not_le, Nat.not_lt, Nat.not_le, Bool.true_eq, Bool.false_eq, reduceCtorEq] at c6
    refine gc_seq fun K4 hK4 => ?_
    refine gc_region ?_
    refine gl_op rfl rfl rfl (op_pure hT rfl) ?_
    refine gl_op rfl rfl rfl (op_pure hT rfl) ?_
    refine gl_nil ?_
    refine hK4 _ _ ?_
    clear hK4; try clear K4
    refine gc_ret ?_
    try simp only [x_then_ret, x_block_ret]
    refine gk_ret2 rfl rfl rfl ?_
    have e : uintV n = ([], 1) := by simp [uintV, c6]
    rw [e]
    exact ⟨none, 0, rfl, ⟨by simp, .inl ⟨rfl, rfl, rfl⟩⟩, hS.below⟩
  · try simp only [decide_eq_true_eq, decide_eq_false_iff_not, Bool.not_eq_true', Bool.not_eq_false', Int.not_lt, Int.not_le, Nat.not_lt, Nat.not_le, Bool.true_eq, Bool.false_eq, reduceCtorEq] at c6
    refine gc_skip ?_
    refine hK2 _ _ ?_
    clear hK2; try clear K2
    refine gc_seq fun K5 hK5 => ?_
    refine gc_region ?_
    refine gl_op rfl rfl rfl (op_pure hT rfl) ?_
    refine gl_nil ?_
    refine hK5 _ _ ?_
    clear hK5; try clear K5
    refine gc_seq fun K6 hK6 => ?_
    refine gc_block ?_
    have hS := hS.nil 5 1
    have hlen := encU_len 8 n.toNat (by omega)
    refine gc_loop (fun k a w' => ∃ (n' : Int) (l : List UInt8) (A : Option Addr) (c : Nat), Fr 23 a [(0, .int .i64 n'), (4, .slice A l.length c)] ∧ 0 ≤ n' ∧ n'.toNat < k ∧ l ++ encU n'.toNat = encU n.toNat ∧
      St w.heap.size w w' [.row A c 5 1 l.length (l.map uB)]) (n.toNat + 1) ?_ ?_ ?_
    · intro a ha; exact ⟨n, [], _, _, ha.sub ⟨rfl, rfl, trivial⟩, by omega, by omega, rfl, hS⟩
    · rintro a w ⟨n', _, _, _, _, _, h1, _⟩; omega
    rintro k a w1 ⟨n', l, A, c, hF, h0, hk, he, hS⟩
    refine gc_of hF ?_
    have hll : l.length ≤ 9 := by have := congrArg List.length he; simp at this; omega
    refine gc_seq fun K7 hK7 => ?_
    refine gc_seq fun K8 hK8 => ?_
    refine gc_region ?_
    refine gl_op rfl rfl rfl (op_pure hT rfl) ?_
    refine gl_op rfl rfl rfl (op_pure hT rfl) ?_
    refine gl_nil ?_
    refine hK8 _ _ ?_
    clear hK8; try clear K8
    refine gc_cond rfl rfl (fun c8 => ?_) (fun c8 => ?_)
    · try simp only [decide_eq_true_eq, decide_eq_false_iff_not, Bool.not_eq_true', Bool.not_eq_false', Int.not_lt, Int.not_le, Nat.not_lt, Nat.not_le, Bool.true_eq, Bool.false_eq, reduceCtorEq] at c8
      refine gc_skip ?_
      refine hK7 _ _ ?_
      clear hK7; try clear K7
      refine gc_seq fun K9 hK9 => ?_
      refine gc_block ?_
      refine gc_region ?_
      refine gl_op rfl rfl rfl (op_pure hT rfl) ?_
      refine gl_op rfl rfl rfl (op_pure hT rfl) ?_
      refine gl_op rfl rfl rfl (op_pure hT rfl) ?_
      refine gl_op rfl rfl rfl (op_pure hT rfl) ?_
      refine gl_lit hT hS el5 rfl rfl rfl rfl rfl rfl rfl rfl rfl fun g15 w15 hS => ?_
      refine gl_append 0 hT hS el5 (hS.rd (i := 1) rfl) (rfl) rfl rfl rfl rfl rfl rfl rfl rfl (by first | omega | (simp; omega)) (by first | omega | (simp; omega)) fun A16 c16 w16 hS => ?_
      have hS := hS.erase 1
      refine gl_op rfl rfl rfl (op_pure hT rfl) ?_
      refine gl_nil ?_
      refine hK9 _ _ ?_
      clear hK9; try clear K9
      refine gc_region ?_
      refine gl_op rfl rfl rfl (op_pure hT rfl) ?_
      refine gl_op rfl rfl rfl (op_pure hT rfl) ?_
      refine gl_op rfl rfl rfl (op_pure hT rfl) ?_
      refine gl_nil ?_
      intro a ha
      have e1 : encU n'.toNat = UInt8.ofNat (128 + n'.toNat % 128) :: encU (n'.toNat / 128) := encU_big (by omega)
      refine ⟨n' / 128, l ++ [UInt8.ofNat (128 + n'.toNat % 128)], _, _, ha.sub ⟨by rfl, by simp; rfl, trivial⟩, by omega, by omega, ?_, ?_⟩
      · rw [← he, e1]
        have : (n' / 128).toNat = n'.toNat / 128 := by omega
        rw [this]; simp
      · have e2 : Value.int .u8 (bits .or .u8 (IntKind.u8.wrap n') 128) = uB (UInt8.ofNat (128 + n'.toNat % 128)) := by
          rw [or128, uB_toB (by omega) (by omega)]
          have : (128 + n' % 128).toNat = 128 + n'.toNat % 128 := by omega
          unfold toB; rw [this]
        rw [e2] at hS
        simpa using hS
    · try simp only [decide_eq_true_eq, decide_eq_false_iff_not, Bool.not_eq_true', Bool.not_eq_false', Int.not_lt, Int.not_le, Nat.not_lt, Nat.not_le, Bool.true_eq, Bool.false_eq, reduceCtorEq] at c8
      refine gc_exit ?_
      refine hK6 _ _ ?_
      clear hK6; try clear K6
      refine gc_seq fun K10 hK10 => ?_
      refine gc_region ?_
      refine gl_op rfl rfl rfl (op_pure hT rfl) ?_
      refine gl_op rfl rfl rfl (op_pure hT rfl) ?_
      refine gl_op rfl rfl rfl (op_pure hT rfl) ?_
      refine gl_lit hT hS el5 rfl rfl rfl rfl rfl rfl rfl rfl rfl fun g20 w20 hS => ?_
      refine gl_append 0 hT hS el5 (hS.rd (i := 1) rfl) (rfl) rfl rfl rfl rfl rfl rfl rfl rfl (by first | omega | (simp; omega)) (by first | omega | (simp; omega)) fun A21 c21 w21 hS => ?_
      have hS := hS.erase 1
      refine gl_callf rfl rfl rfl rfl Tryd.func51 rfl rfl rfl (Clip_calls _ _ _ (hS.cap (i := 0) rfl).1 _) ?_
      rintro _ _ ⟨rfl, n22, rfl⟩
      refine ⟨_, rfl, ?_⟩
      have hS := hS.dr n22
      refine gl_op rfl rfl rfl (op_pure hT rfl) ?_
      refine gl_op rfl rfl rfl (op_pure hT rfl) ?_
      refine gl_nil ?_
      refine hK10 _ _ ?_
      clear hK10; try clear K10
      refine gc_ret ?_
      try simp only [x_then_ret, x_block_ret]
      refine gk_ret2 rfl rfl rfl ?_
      have e1 : encU n'.toNat = [UInt8.ofNat n'.toNat] := encU_small (by omega)
      have e2 : uintV n = (l ++ [UInt8.ofNat n'.toNat], 0) := by rw [uintV, if_neg (by omega), ← he, e1]
      have e3 : Value.int .u8 (IntKind.u8.wrap n') = uB (UInt8.ofNat n'.toNat) := by rw [IntKind.wrap_u8, Int.emod_eq_of_lt h0 (by omega), uB_toB h0 (by omega)]; rfl
      obtain ⟨h2, h3⟩ := hS.out (i := 0) rfl
      have h4 := h2.clip (c' := l.length + 1) (Nat.le_refl _) h2.cap.1
      rw [e3] at h4
      rw [e2]
      exact ⟨A21, l.length + 1, by simp, by simpa using h4, h3⟩
theorem rUint_calls (n : Int) (hn : n ≤ 9223372036854775807) (w : World) :
    Calls Tryd.prog 17 ⟨[.int .i64 n]⟩ w fun e w' => ∃ A c, e = .returned (.tuple #[.slice A (uintV n).1.length c, .int .i64 (uintV n).2]) ∧
      Owns w' w.heap.size A c 5 1 (uintV n).1.length ((uintV n).1.map uB) ∧ Below w.heap.size w w' := by
  refine gc_enter (N := 23) Tryd.func17 rfl rfl rfl [(0, _)] rfl ?_
  have hS := St.start w
  refine gc_seq fun K1 hK1 => ?_
  refine gc_region ?_
  refine gl_op rfl rfl rfl (op_pure hT rfl) ?_
  refine gl_op rfl rfl rfl (op_pure hT rfl) ?_
  refine gl_nil ?_
  refine hK1 _ _ ?_
  clear hK1; try clear K1
  refine gc_seq fun K2 hK2 => ?_
  refine gc_seq fun K3 hK3 => ?_
  refine gc_region ?_
  refine gl_op rfl rfl rfl (op_pure hT rfl) ?_
  refine gl_op rfl rfl rfl (op_pure hT rfl) ?_
  refine gl_nil ?_
  refine hK3 _ _ ?_
  clear hK3; try clear K3
  refine gc_cond rfl rfl (fun c6 => ?_) (fun c6 => ?_)
  · try simp only [decide_eq_true_eq, decide_eq_false_iff_not, Bool.not_eq_true', Bool.not_eq_false', Int.not_lt, Int.not_le, Nat.not_lt, Nat.not_le, Bool.true_eq, Bool.false_eq, reduceCtorEq] at c6
    refine gc_seq fun K4 hK4 => ?_
    refine gc_region ?_
    refine gl_op rfl rfl rfl (op_pure hT rfl) ?_
    refine gl_op rfl rfl rfl (op_pure hT rfl) ?_
    refine gl_nil ?_
    refine hK4 _ _ ?_
    clear hK4; try clear K4
    refine gc_ret ?_
    try simp only [x_then_ret, x_block_ret]
    refine gk_ret2 rfl rfl rfl ?_
    have e : uintV n = ([], 1) := by simp [uintV, c6]
    rw [e]
    exact ⟨none, 0, rfl, ⟨by simp, .inl ⟨rfl, rfl, rfl⟩⟩, hS.below⟩
  · try simp only [decide_eq_true_eq, decide_eq_false_iff_not, Bool.not_eq_true', Bool.not_eq_false', Int.not_lt, Int.not_le, Nat.not_lt, Nat.not_le, Bool.true_eq, Bool.false_eq, reduceCtorEq] at c6
    refine gc_skip ?_
    refine hK2 _ _ ?_
    clear hK2; try clear K2
    refine gc_seq fun K5 hK5 => ?_
    refine gc_region ?_
    refine gl_op rfl rfl rfl (op_pure hT rfl) ?_
    refine gl_nil ?_
    refine hK5 _ _ ?_
    clear hK5; try clear K5
    refine gc_seq fun K6 hK6 => ?_
    refine gc_block ?_
    have hS := hS.nil 5 1
    have hlen := encU_len 8 n.toNat (by omega)
    refine gc_loop (fun k a w' => ∃ (n' : Int) (l : List UInt8) (A : Option Addr) (c : Nat), Fr 23 a [(0, .int .i64 n'), (4, .slice A l.length c)] ∧ 0 ≤ n' ∧ n' ≤ n ∧ n'.toNat < k ∧ l ++ encU n'.toNat = encU n.toNat ∧
      St w.heap.size w w' [.row A c 5 1 l.length (l.map uB)]) (n.toNat + 1) ?_ ?_ ?_
    · intro a ha; exact ⟨n, [], _, _, ha.sub ⟨rfl, rfl, trivial⟩, by omega, by omega, by omega, rfl, hS⟩
    · rintro a w ⟨n', _, _, _, _, _, _, h1, _⟩; omega
    rintro k a w1 ⟨n', l, A, c, hF, h0, h01, hk, he, hS⟩
    refine gc_of hF ?_
    have hll : l.length ≤ 9 := by have := congrArg List.length he; simp at this; omega
    refine gc_seq fun K7 hK7 => ?_
    refine gc_seq fun K8 hK8 => ?_
    refine gc_region ?_
    refine gl_op rfl rfl rfl (op_pure hT rfl) ?_
    refine gl_op rfl rfl rfl (op_pure hT rfl) ?_
    refine gl_nil ?_
    refine hK8 _ _ ?_
    clear hK8; try clear K8
    refine gc_cond rfl rfl (fun c8 => ?_) (fun c8 => ?_)
    · try simp only [decide_eq_true_eq, decide_eq_false_iff_not, Bool.not_eq_true', Bool.not_eq_false', Int.not_lt, Int.not_le, Nat.not_lt, Nat.not_le, Bool.true_eq, Bool.false_eq, reduceCtorEq] at c8
      refine gc_skip ?_
      refine hK7 _ _ ?_
      clear hK7; try clear K7
      refine gc_block ?_
      refine gc_seq fun K9 hK9 => ?_
      refine gc_region ?_
      refine gl_op rfl rfl rfl (op_pure hT rfl) ?_
      refine gl_op rfl rfl rfl (op_pure hT rfl) ?_
      first | refine gl_op rfl rfl rfl (op_rem hT rfl (by omega)) ?_ | refine gl_op rfl rfl rfl (op_pure hT rfl) ?_
      first | refine gl_fit hT rfl rfl rfl rfl (by omega) ?_ | refine gl_op rfl rfl rfl (op_pure hT rfl) ?_
      refine gl_op rfl rfl rfl (op_pure hT rfl) ?_
      refine gl_lit hT hS el5 rfl rfl rfl rfl rfl rfl rfl rfl rfl fun g14 w14 hS => ?_
      refine gl_append 0 hT hS el5 (hS.rd (i := 1) rfl) (rfl) rfl rfl rfl rfl rfl rfl rfl rfl (by first | omega | (simp; omega)) (by first | omega | (simp; omega)) fun A15 c15 w15 hS => ?_
      have hS := hS.erase 1
      refine gl_op rfl rfl rfl (op_pure hT rfl) ?_
      refine gl_nil ?_
      refine hK9 _ _ ?_
      clear hK9; try clear K9
      refine gc_region ?_
      refine gl_op rfl rfl rfl (op_pure hT rfl) ?_
      first | refine gl_op rfl rfl rfl (op_quo hT rfl (by omega) (by omega)) ?_ | refine gl_op rfl rfl rfl (op_pure hT rfl) ?_
      refine gl_op rfl rfl rfl (op_pure hT rfl) ?_
      refine gl_nil ?_
      intro a ha
      have e1 : encU n'.toNat = UInt8.ofNat (128 + n'.toNat % 128) :: encU (n'.toNat / 128) := encU_big (by omega)
      refine ⟨n' / 128, l ++ [UInt8.ofNat (128 + n'.toNat % 128)], _, _, ha.sub ⟨by rfl, by simp; rfl, trivial⟩, by omega, by omega, by omega, ?_, ?_⟩
      · rw [← he, e1]
        have : (n' / 128).toNat = n'.toNat / 128 := by omega
        rw [this]; simp
      · have e2 : Value.int .u8 (IntKind.u8.wrap (128 + n' % 128)) = uB (UInt8.ofNat (128 + n'.toNat % 128)) := by
          rw [IntKind.wrap_u8, Int.emod_eq_of_lt (by omega) (by omega), uB_toB (by omega) (by omega)]
          have : (128 + n' % 128).toNat = 128 + n'.toNat % 128 := by omega
          unfold toB; rw [this]
        rw [e2] at hS; simpa using hS
    · try simp only [decide_eq_true_eq, decide_eq_false_iff_not, Bool.not_eq_true', Bool.not_eq_false', Int.not_lt, Int.not_le, Nat.not_lt, Nat.not_le, Bool.true_eq, Bool.false_eq, reduceCtorEq] at c8
      refine gc_exit ?_
      refine hK6 _ _ ?_
      clear hK6; try clear K6
      refine gc_seq fun K10 hK10 => ?_
      refine gc_region ?_
      refine gl_op rfl rfl rfl (op_pure hT rfl) ?_
      refine gl_op rfl rfl rfl (op_pure hT rfl) ?_
      refine gl_op rfl rfl rfl (op_pure hT rfl) ?_
      refine gl_lit hT hS el5 rfl rfl rfl rfl rfl rfl rfl rfl rfl fun g21 w21 hS => ?_
      refine gl_append 0 hT hS el5 (hS.rd (i := 1) rfl) (rfl) rfl rfl rfl rfl rfl rfl rfl rfl (by first | omega | (simp; omega)) (by first | omega | (simp; omega)) fun A22 c22 w22 hS => ?_
      have hS := hS.erase 1
      refine gl_op rfl rfl rfl (op_pure hT rfl) ?_
      refine gl_op rfl rfl rfl (op_pure hT rfl) ?_
      refine gl_nil ?_
      refine hK10 _ _ ?_
      clear hK10; try clear K10
      refine gc_ret ?_
      try simp only [x_then_ret, x_block_ret]
      refine gk_ret2 rfl rfl rfl ?_
      have e1 : encU n'.toNat = [UInt8.ofNat n'.toNat] := encU_small (by omega)
      have e2 : uintV n = (l ++ [UInt8.ofNat n'.toNat], 0) := by rw [uintV, if_neg (by omega), ← he, e1]
      have e3 : Value.int .u8 (IntKind.u8.wrap n') = uB (UInt8.ofNat n'.toNat) := by rw [IntKind.wrap_u8, Int.emod_eq_of_lt h0 (by omega), uB_toB h0 (by omega)]; rfl
      obtain ⟨h4, h3⟩ := hS.out (i := 0) rfl
      rw [e3] at h4
      rw [e2]
      exact ⟨A22, c22, by simp, by simpa using h4, h3⟩
end Go.Proofs.YtpeomdobcobdiaaDoor
