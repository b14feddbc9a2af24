/- Contracts of functions that CodeProps reaches, and words to say them. No condition. -/
import Derived.Test.YtnomlloaahoceaaDoorZ04
import Derived.Test.YtnomlloaahoceaaDoorZ02
/- Plain words for chapter 1: the check sum, bit by bit. No program in sight; no condition. -/
namespace Go.Proofs.YtnomlloaahoceaaDoor
set_option linter.unusedVariables false
set_option linter.unusedSimpArgs false

def poly : Nat := 2197175160
def stp (r : Nat) : Nat := if r % 2 = 1 then r / 2 ^^^ poly else r / 2
def stps : Nat → Nat → Nat
  | 0, r => r
  | n + 1, r => stps n (stp r)
def byt (r : Nat) (x : UInt8) : Nat := stps 8 (r ^^^ x.toNat)
def crcGo (r : Nat) (l : List UInt8) : Nat := l.foldl byt r
def crcV (l : List UInt8) : Nat := 4294967295 - crcGo 4294967295 l
theorem xor_lt32 {a b : Nat} (ha : a < 4294967296) (hb : b < 4294967296) : a ^^^ b < 4294967296 := Nat.xor_lt_two_pow (n := 32) ha hb
theorem stp_lt {r : Nat} (h : r < 4294967296) : stp r < 4294967296 := by
  unfold stp
  split
  · exact xor_lt32 (by omega) (by decide)
  · omega
theorem stps_lt (n : Nat) : ∀ {r : Nat}, r < 4294967296 → stps n r < 4294967296 := by
  induction n with
  | zero => intro r h; exact h
  | succ n ih => intro r h; exact ih (stp_lt h)
theorem byt_lt {r : Nat} (h : r < 4294967296) (x : UInt8) : byt r x < 4294967296 := stps_lt 8 (xor_lt32 h (by have := x.toNat_lt; omega))
theorem crcGo_append (r : Nat) (a b : List UInt8) : crcGo r (a ++ b) = crcGo (crcGo r a) b := by simp [crcGo]
theorem crcGo_cons (r : Nat) (x : UInt8) (l : List UInt8) : crcGo r (x :: l) = crcGo (byt r x) l := rfl
theorem crcGo_nil (r : Nat) : crcGo r [] = r := rfl
theorem crcV_lt (l : List UInt8) : crcV l < 4294967296 := by unfold crcV; omega
theorem xor_div2 (a b : Nat) : (a ^^^ b) / 2 = a / 2 ^^^ b / 2 := by
  apply Nat.eq_of_testBit_eq
  intro i
  simp [Nat.testBit_div_two, Nat.testBit_xor]
theorem xor_mod2 (a b : Nat) : (a ^^^ b) % 2 = (a + b) % 2 := by
  have h1 : (a ^^^ b).testBit 0 = (a.testBit 0 != b.testBit 0) := Nat.testBit_xor ..
  rw [Nat.testBit_zero, Nat.testBit_zero, Nat.testBit_zero] at h1
  rcases Nat.mod_two_eq_zero_or_one a with ha | ha <;> rcases Nat.mod_two_eq_zero_or_one b with hb | hb <;> rcases Nat.mod_two_eq_zero_or_one (a ^^^ b) with hc | hc <;> simp [ha, hb, hc] at h1 <;> omega
theorem xor_xor4 (a b c : Nat) : (a ^^^ c) ^^^ (b ^^^ c) = a ^^^ b := by
  apply Nat.eq_of_testBit_eq; intro i; simp only [Nat.testBit_xor]
  cases a.testBit i <;> cases b.testBit i <;> cases c.testBit i <;> rfl
theorem xor_swap (a b c : Nat) : (a ^^^ b) ^^^ c = (a ^^^ c) ^^^ b := by
  apply Nat.eq_of_testBit_eq; intro i; simp only [Nat.testBit_xor]
  cases a.testBit i <;> cases b.testBit i <;> cases c.testBit i <;> rfl
theorem stp_xor (a b : Nat) : stp (a ^^^ b) = stp a ^^^ stp b := by
  unfold stp
  rw [xor_div2, xor_mod2]
  by_cases ha : a % 2 = 1 <;> by_cases hb : b % 2 = 1
  · rw [if_neg (by omega), if_pos ha, if_pos hb, xor_xor4]
  · rw [if_pos (by omega), if_pos ha, if_neg hb, xor_swap]
  · rw [if_pos (by omega), if_neg ha, if_pos hb, Nat.xor_assoc]
  · rw [if_neg (by omega), if_neg ha, if_neg hb]
theorem stps_xor (n : Nat) : ∀ a b : Nat, stps n (a ^^^ b) = stps n a ^^^ stps n b := by
  induction n with
  | zero => intro a b; rfl
  | succ n ih => intro a b; simp only [stps, stp_xor, ih]
theorem stp_even (m : Nat) : stp (2 * m) = m := by unfold stp; rw [if_neg (by omega)]; omega
theorem stps4_shift (q : Nat) : stps 4 (16 * q) = q := by
  have e1 : stp (16 * q) = 8 * q := by rw [show 16 * q = 2 * (8 * q) by omega, stp_even]
  have e2 : stp (8 * q) = 4 * q := by rw [show 8 * q = 2 * (4 * q) by omega, stp_even]
  have e3 : stp (4 * q) = 2 * q := by rw [show 4 * q = 2 * (2 * q) by omega, stp_even]
  simp only [stps, e1, e2, e3, stp_even]
def half : List Nat := [0, 274646895, 549293790, 820201905, 1098587580, 1361435347, 1640403810, 1905808397, 2197175160, 2460548119, 2722870694, 2987750089, 3280807620, 3553878443, 3811616794, 4084100981]
theorem half_at : ∀ i : Fin 16, half.getD i.val 0 = stps 4 i.val := by decide
theorem half_get {i : Nat} (h : i < 16) : half.getD i 0 = stps 4 i := half_at ⟨i, h⟩
theorem half_lt : ∀ i : Fin 16, half.getD i.val 0 < 4294967296 := by decide
theorem stps4 (r : Nat) : stps 4 r = r / 16 ^^^ half.getD (r % 16) 0 := by
  have e : r = 16 * (r / 16) ^^^ r % 16 := by
    have h1 : 16 * (r / 16) ||| r % 16 = 16 * (r / 16) + r % 16 := (Nat.two_pow_add_eq_or_of_lt (i := 4) (b := r % 16) (by omega) (r / 16)).symm
    have h2 : 16 * (r / 16) &&& r % 16 = 0 := by
      apply Nat.eq_of_testBit_eq
      intro i
      rw [Nat.testBit_and, Nat.zero_testBit]
      rcases Nat.lt_or_ge i 4 with hi | hi
      · have : (16 * (r / 16)).testBit i = false := by
          rw [show 16 * (r / 16) = 2 ^ 4 * (r / 16) by omega, Nat.testBit_two_pow_mul]
          simp; omega
        rw [this]; rfl
      · have : (r % 16).testBit i = false := Nat.testBit_lt_two_pow (Nat.lt_of_lt_of_le (by omega : r % 16 < 2 ^ 4) (Nat.pow_le_pow_right (by decide) hi))
        rw [this]; simp
    apply Nat.eq_of_testBit_eq
    intro i
    have h3 := congrArg (fun n => n.testBit i) h1
    have h4 := congrArg (fun n => n.testBit i) h2
    simp only [Nat.testBit_or, Nat.testBit_and, Nat.zero_testBit] at h3 h4
    rw [show 16 * (r / 16) + r % 16 = r by omega] at h3
    rw [Nat.testBit_xor, ← h3]
    generalize (16 * (r / 16)).testBit i = x at h4
    generalize (r % 16).testBit i = y at h4
    cases x <;> cases y <;> first | rfl | cases h4
  have h5 := half_get (i := r % 16) (by omega)
  rw [h5]
  conv => lhs; rw [e]
  rw [stps_xor, stps4_shift]
theorem stps_add (m : Nat) : ∀ n r : Nat, stps (m + n) r = stps n (stps m r) := by
  induction m with
  | zero => intro n r; simp [stps]
  | succ m ih => intro n r; rw [Nat.succ_add]; simp only [stps, ih]
theorem byt_half (r : Nat) (x : UInt8) : byt r x = stps 4 (stps 4 (r ^^^ x.toNat)) := stps_add 4 4 _
theorem stp_pair (r c : Nat) : stp (r ^^^ c) = (if r % 2 ≠ c % 2 then r / 2 ^^^ poly else r / 2) ^^^ c / 2 := by
  unfold stp
  rw [xor_div2, xor_mod2]
  by_cases h : r % 2 = c % 2
  · rw [if_neg (by omega), if_neg (by omega)]
  · rw [if_pos (by omega), if_pos h, xor_swap]
theorem stps_succ' (n r : Nat) : stps (n + 1) r = stp (stps n r) := by rw [stps_add n 1]; rfl
theorem u32_xor (a b : Nat) (ha : a < 4294967296) (hb : b < 4294967296) : Go.bits .xor .u32 (a : Int) (b : Int) = ((a ^^^ b : Nat) : Int) := by
  show Go.IntKind.u32.wrap ((BitVec.ofInt 32 (a : Int) ^^^ BitVec.ofInt 32 (b : Int)).toNat : Int) = _
  have h1 : (BitVec.ofInt 32 (a : Int)).toNat = a := by rw [BitVec.ofInt_natCast, BitVec.toNat_ofNat]; exact Nat.mod_eq_of_lt ha
  have h2 : (BitVec.ofInt 32 (b : Int)).toNat = b := by rw [BitVec.ofInt_natCast, BitVec.toNat_ofNat]; exact Nat.mod_eq_of_lt hb
  have h3 := xor_lt32 ha hb
  rw [BitVec.toNat_xor, h1, h2, IntKind.wrap_u32]
  omega
theorem u32_and15 (a : Nat) (ha : a < 4294967296) : Go.bits .and .u32 (a : Int) 15 = ((a % 16 : Nat) : Int) := by
  show Go.IntKind.u32.wrap ((BitVec.ofInt 32 (a : Int) &&& BitVec.ofInt 32 15).toNat : Int) = _
  have h1 : (BitVec.ofInt 32 (a : Int)).toNat = a := by rw [BitVec.ofInt_natCast, BitVec.toNat_ofNat]; exact Nat.mod_eq_of_lt ha
  have h2 : (BitVec.ofInt 32 15).toNat = 15 := by decide
  rw [BitVec.toNat_and, h1, h2, IntKind.wrap_u32]
  rw [show (15 : Nat) = 2 ^ 4 - 1 by rfl, Nat.and_two_pow_sub_one_eq_mod]
  omega
theorem xor_ones (a : Nat) (ha : a < 4294967296) : 4294967295 ^^^ a = 4294967295 - a := by
  have h : (4294967295 : Nat) = 2 ^ 32 - 1 := by decide
  have : (BitVec.allOnes 32 ^^^ BitVec.ofNat 32 a) = ~~~ (BitVec.ofNat 32 a) := by
    rw [BitVec.allOnes_xor]
  have := congrArg BitVec.toNat this
  simp only [BitVec.toNat_xor, BitVec.toNat_allOnes, BitVec.toNat_ofNat, BitVec.toNat_not] at this
  rw [Nat.mod_eq_of_lt (by omega : a < 2 ^ 32)] at this
  rw [h]
  omega
def le4 (v : Nat) : List UInt8 := [UInt8.ofNat v, UInt8.ofNat (v / 256), UInt8.ofNat (v / 65536), UInt8.ofNat (v / 16777216)]
theorem u8_wrap (n : Nat) : Value.int .u8 (IntKind.u8.wrap (n : Int)) = uB (UInt8.ofNat n) := by
  unfold uB
  rw [IntKind.wrap_u8, UInt8.toNat_ofNat']
  rfl
end Go.Proofs.YtnomlloaahoceaaDoor


/- Contracts of the check sum. No condition. -/
namespace Go.Proofs.YtnomlloaahoceaaDoor
open Go.RowKit
set_option linter.unusedVariables false
set_option linter.unusedSimpArgs false
abbrev Sl := Option Addr × Nat × Nat
def sV (x : Sl) : Value := .slice x.1 x.2.1 x.2.2
def sl0 : Sl := (none, 0, 0)
def iV (n : Int) : Value := .int .i64 n
def Parts (w : World) (S : List Sl) (L : List (List UInt8)) : Prop :=
  S.length = L.length ∧ ∀ i, i < S.length → (S.getD i sl0).2.1 = (L.getD i []).length ∧ (L.getD i []).length ≤ 4611686018427387904 ∧ RdE w All uB (S.getD i sl0).1 (L.getD i [])
theorem Rd.all {w : World} {ok : Nat → Prop} {A : Option Addr} {n sz : Nat} {cs : List Value} (h : Rd w ok A n sz cs) : Rd w All A n sz cs := ⟨h.1, fun hn => let ⟨a, h1, _, h3⟩ := h.2 hn; ⟨a, h1, trivial, h3⟩⟩
theorem RdE.all {α : Type} {w : World} {ok : Nat → Prop} {enc : α → Value} {A : Option Addr} {l : List α} (h : RdE w ok enc A l) : RdE w All enc A l := Rd.all h
theorem Parts.old {w w0 : World} {L : List It} {S : List Sl} {D : List (List UInt8)} (h : Parts w0 S D) (hS : St w0.heap.size w0 w L) : Parts w S D :=
  ⟨h.1, fun i hi => ⟨(h.2 i hi).1, (h.2 i hi).2.1, (h.2 i hi).2.2.old hS⟩⟩
theorem Parts.one {w : World} {A : Option Addr} {c : Nat} {l : List UInt8} {ok : Nat → Prop} (h : RdE w ok uB A l) (hb : l.length ≤ 4611686018427387904) : Parts w [(A, l.length, c)] [l] :=
  ⟨rfl, fun i hi => by obtain rfl : i = 0 := by simpa using hi
                       exact ⟨rfl, hb, h.all⟩⟩
theorem Parts.nil {w : World} : Parts w [] [] := ⟨rfl, fun i hi => absurd hi (Nat.not_lt_zero i)⟩
theorem Parts.cons {w : World} {A : Option Addr} {c : Nat} {l : List UInt8} {ok : Nat → Prop} {S : List Sl} {D : List (List UInt8)} (h : RdE w ok uB A l) (hb : l.length ≤ 4611686018427387904) (hp : Parts w S D) : Parts w ((A, l.length, c) :: S) (l :: D) := by
  refine ⟨by simp [hp.1], fun i hi => ?_⟩
  cases i with
  | zero => exact ⟨rfl, hb, h.all⟩
  | succ i => exact hp.2 i (by simpa using hi)
theorem flat_drop (L : List (List UInt8)) (i : Nat) (h : i < L.length) : (L.drop i).flatten = L.getD i [] ++ (L.drop (i + 1)).flatten := by
  rw [List.drop_eq_getElem_cons h, List.flatten_cons, List.getD_eq_getElem?_getD, List.getElem?_eq_getElem h]; rfl
theorem drop_at (l : List UInt8) (j : Nat) (h : j < l.length) : l.drop j = l.getD j 0 :: l.drop (j + 1) := by
  rw [List.drop_eq_getElem_cons h]; simp [List.getD_eq_getElem?_getD, h]
def halfV : List Value := half.map fun (n : Nat) => Value.int .u32 (n : Int)
theorem halfV_get (i : Nat) (h : i < 16) : halfV.getD i default = .int .u32 (half.getD i 0 : Nat) := by
  have hl : half.length = 16 := rfl
  unfold halfV
  rw [List.getD_eq_getElem?_getD, List.getElem?_map, List.getElem?_eq_getElem (by omega), List.getD_eq_getElem?_getD, List.getElem?_eq_getElem (by omega)]
  rfl
theorem Sum_calls (A : Option Addr) (c : Nat) (S : List Sl) (D : List (List UInt8)) (w : World) {ok : Nat → Prop} (h1 : RdE w ok sV A S) (hp : Parts w S D) (hb : S.length ≤ 4611686018427387904) :
    Calls Tryd.prog 41 ⟨[.slice A S.length c]⟩ w fun e w' => e = .returned (.int .u32 (crcV D.flatten)) ∧ Below w.heap.size w w' := by
  refine gc_enter (N := 44) Tryd.func41 rfl rfl rfl [(0, _)] rfl ?_
  have hS := St.start w
  refine gc_seq fun K1 hK1 => ?_
  refine gc_region ?_
  refine gl_op rfl rfl rfl (op_pure hT rfl) ?_
  refine gl_nil ?_
  refine hK1 _ _ ?_
  clear hK1; try clear K1
  refine gc_seq fun K2 hK2 => ?_
  refine gc_region ?_
  refine gl_op rfl rfl rfl (op_buildA hT rfl rfl el124 el85 rfl rfl rfl) ?_
  refine gl_alloc el124 hS rfl rfl rfl rfl fun g3 w3 hS => ?_
  refine gl_storeA 0 hS el124 rfl rfl rfl rfl rfl rfl rfl rfl rfl fun wwire_go_128 hS => ?_
  refine gl_nil ?_
  refine hK2 _ _ ?_
  clear hK2; try clear K2
  refine gc_seq fun K3 hK3 => ?_
  refine gc_region ?_
  refine gl_op rfl rfl rfl (op_pure hT rfl) ?_
  refine gl_nil ?_
  refine hK3 _ _ ?_
  clear hK3; try clear K3
  refine gc_seq fun K4 hK4 => ?_
  refine gc_seq fun K5 hK5 => ?_
  refine gc_region ?_
  refine gl_op rfl rfl rfl (op_pure hT rfl) ?_
  refine gl_op rfl rfl rfl (op_pure hT rfl) ?_
  refine gl_op rfl rfl rfl (op_pure hT rfl) ?_
  refine gl_nil ?_
  refine hK5 _ _ ?_
  clear hK5; try clear K5
  refine gc_block ?_
  have hD := hp.1
  refine gc_loop (fun k a w' => ∃ (i r g : Nat), Fr 44 a [(0, .slice A S.length c), (3, .pointer (some ⟨g, 0, none⟩)), (4, .int .u32 r), (10, .slice A S.length c), (11, .int .i64 S.length), (12, .int .i64 i)] ∧ i ≤ S.length ∧ k = S.length - i + 1 ∧ r < 4294967296 ∧ crcGo r (D.drop i).flatten = crcGo 4294967295 D.flatten ∧
    St w.heap.size w w' [.blk g 124 halfV]) (S.length + 1) ?_ ?_ ?_
  · intro a ha; exact ⟨0, 4294967295, _, ha.sub ⟨rfl, rfl, rfl, rfl, rfl, rfl, trivial⟩, by omega, by omega, by decide, rfl, hS⟩
  · rintro a w ⟨i, r, g, _, h1, h2, _⟩; omega
  rintro k a w1 ⟨i, r, g, hF, hi, hk, hr, hg, hS⟩
  refine gc_of hF ?_
  refine gc_seq fun K6 hK6 => ?_
  refine gc_region ?_
  refine gl_op rfl rfl rfl (op_pure hT rfl) ?_
  refine gl_nil ?_
  refine hK6 _ _ ?_
  clear hK6; try clear K6
  refine gc_seq fun K7 hK7 => ?_
  refine gc_cond rfl rfl (fun c13 => ?_) (fun c13 => ?_)
  · try simp only [decide_eq_true_eq, decide_eq_false_iff_not, Bool.not_eq_true', Bool.not_eq_false', Int.not_lt, Int.not_le, Nat.not_lt, Nat.not_le, Bool.true_eq, Bool.false_eq, reduceCtorEq] at c13
    refine gc_skip ?_
    refine hK7 _ _ ?_
    clear hK7; try clear K7
    refine gc_seq fun K8 hK8 => ?_
    refine gc_block ?_
    refine gc_seq fun K9 hK9 => ?_
    refine gc_region ?_
    refine gl_ix sl0 hT (h1.old hS) rfl rfl rfl rfl rfl el31.cellsOf.1 el31.cellsOf.2 rfl (by simp) rfl (by omega) (by first | omega | (simp; omega)) fun p14 hp14 => ?_
    have hpi := hp.2 i (by omega)
    have hst : (S.getD ((i : Int)).toNat sl0) = S.getD i sl0 := by simp
    rw [hst] at hp14
    refine gl_op rfl rfl rfl (op_load hT rfl rfl rfl rfl hp14) ?_
    refine gl_op rfl rfl rfl (op_pure hT rfl) ?_
    refine gl_nil ?_
    refine hK9 _ _ ?_
    clear hK9; try clear K9
    refine gc_seq fun K10 hK10 => ?_
    refine gc_region ?_
    refine gl_op rfl rfl rfl (op_pure hT rfl) ?_
    refine gl_op rfl rfl rfl (op_pure hT rfl) ?_
    refine gl_op rfl rfl rfl (op_pure hT rfl) ?_
    refine gl_nil ?_
    refine hK10 _ _ ?_
    clear hK10; try clear K10
    refine gc_block ?_
    have hln := hpi.2.1
    refine gc_loop (fun k a w' => ∃ (j q : Nat), Fr 44 a [(0, .slice A S.length c), (3, .pointer (some ⟨g, 0, none⟩)), (4, .int .u32 q), (10, .slice A S.length c), (11, .int .i64 S.length), (12, .int .i64 i), (16, .slice (S.getD i sl0).1 (D.getD i []).length (S.getD i sl0).2.2), (17, .int .i64 ((D.getD i []).length : Nat)), (18, .int .i64 j)] ∧ j ≤ (D.getD i []).length ∧ k = (D.getD i []).length - j + 1 ∧ q < 4294967296 ∧ crcGo q ((D.getD i []).drop j) = crcGo r (D.getD i []) ∧
      St w.heap.size w w' [.blk g 124 halfV]) ((D.getD i []).length + 1) ?_ ?_ ?_
    · intro a ha; exact ⟨0, r, ha.sub ⟨rfl, rfl, rfl, rfl, rfl, rfl, by rw [← hpi.1]; rfl, by rw [← hpi.1]; rfl, rfl, trivial⟩, by omega, by omega, hr, rfl, hS⟩
    · rintro a w ⟨j, q, _, h1, h2, _⟩; omega
    rintro k2 a w2 ⟨j, q, hF, hj, hk2, hq, hgq, hS⟩
    refine gc_of hF ?_
    refine gc_seq fun K11 hK11 => ?_
    refine gc_region ?_
    refine gl_op rfl rfl rfl (op_pure hT rfl) ?_
    refine gl_nil ?_
    refine hK11 _ _ ?_
    clear hK11; try clear K11
    refine gc_seq fun K12 hK12 => ?_
    refine gc_cond rfl rfl (fun c19 => ?_) (fun c19 => ?_)
    · try simp only [decide_eq_true_eq, decide_eq_false_iff_not, Bool.not_eq_true', Bool.not_eq_false', Int.not_lt, Int.not_le, Nat.not_lt, Nat.not_le, Bool.true_eq, Bool.false_eq, reduceCtorEq] at c19
      refine gc_skip ?_
      refine hK12 _ _ ?_
      clear hK12; try clear K12
      refine gc_seq fun K13 hK13 => ?_
      refine gc_block ?_
      refine gc_seq fun K14 hK14 => ?_
      refine gc_region ?_
      refine gl_ix (0 : UInt8) hT (hpi.2.2.old hS) rfl rfl rfl rfl rfl el5.cellsOf.1 el5.cellsOf.2 rfl (by simp) rfl (by omega) (by first | omega | (simp; omega)) fun p20 hp20 => ?_
      refine gl_op rfl rfl rfl (op_load hT rfl rfl rfl rfl hp20) ?_
      have hx : ((j : Int)).toNat = j := by omega
      have hx8 := u8_range ((D.getD i []).getD j 0)
      have hq1 : q ^^^ ((D.getD i []).getD j 0).toNat < 4294967296 := xor_lt32 hq (by omega)
      have hq2 : stps 4 (q ^^^ ((D.getD i []).getD j 0).toNat) < 4294967296 := stps_lt 4 hq1
      refine gl_op rfl rfl rfl (op_pure hT rfl) ?_
      refine gl_nil ?_
      refine hK14 _ _ ?_
      clear hK14; try clear K14
      refine gc_seq fun K15 hK15 => ?_
      refine gc_region ?_
      refine gl_op rfl rfl rfl (op_pure hT rfl) ?_
      refine gl_op rfl rfl rfl (op_pure hT rfl) ?_
      refine gl_op rfl rfl rfl (op_pure hT rfl) ?_
      refine gl_op rfl rfl rfl (op_pure hT rfl) ?_
      refine gl_spell 25 (v := .int .u32 ((q ^^^ ((D.getD i []).getD j 0).toNat : Nat) : Int)) rfl ?_ ?_
      · rw [hx, IntKind.wrap_u32, Int.emod_eq_of_lt hx8.1 (by omega), u32_xor _ _ hq (by omega)]
      refine gl_op rfl rfl rfl (op_pure hT rfl) ?_
      refine gl_nil ?_
      refine hK15 _ _ ?_
      clear hK15; try clear K15
      refine gc_seq fun K16 hK16 => ?_
      refine gc_region ?_
      refine gl_op rfl rfl rfl (op_pure hT rfl) ?_
      refine gl_op rfl rfl rfl (op_pure hT rfl) ?_
      refine gl_op rfl rfl rfl (op_pure hT rfl) ?_
      refine gl_op rfl rfl rfl (op_pure hT rfl) ?_
      refine gl_spell 29 (v := .int .u32 (((q ^^^ ((D.getD i []).getD j 0).toNat) % 16 : Nat) : Int)) rfl (by rw [u32_and15 _ hq1]) ?_
      refine gl_ixB 0 (default) hT hS rfl rfl rfl rfl rfl el85.cellsOf.1 el85.cellsOf.2 rfl rfl rfl (by omega) (by omega) rfl fun hp30 => ?_
      rw [Int.toNat_natCast, halfV_get _ (Nat.mod_lt _ (by decide))] at hp30
      refine gl_op rfl rfl rfl (op_load hT rfl rfl rfl rfl hp30) ?_
      refine gl_op rfl rfl rfl (op_pure hT rfl) ?_
      refine gl_spell 32 (v := .int .u32 (stps 4 (q ^^^ ((D.getD i []).getD j 0).toNat) : Nat)) rfl ?_ ?_
      · rw [stps4]
        have e16 : ∀ x : Nat, (x : Int) / 2 ^ 4 = ((x / 16 : Nat) : Int) := by intro x; omega
        show Value.int .u32 (bits .xor .u32 (((q ^^^ ((D.getD i []).getD j 0).toNat : Nat) : Int) / 2 ^ 4) _) = _
        rw [e16, u32_xor _ _ (by omega) (half_lt ⟨_, Nat.mod_lt _ (by decide)⟩)]
      refine gl_op rfl rfl rfl (op_pure hT rfl) ?_
      refine gl_nil ?_
      refine hK16 _ _ ?_
      clear hK16; try clear K16
      refine gc_region ?_
      refine gl_op rfl rfl rfl (op_pure hT rfl) ?_
      refine gl_op rfl rfl rfl (op_pure hT rfl) ?_
      refine gl_op rfl rfl rfl (op_pure hT rfl) ?_
      refine gl_op rfl rfl rfl (op_pure hT rfl) ?_
      refine gl_spell 36 (v := .int .u32 ((stps 4 (q ^^^ ((D.getD i []).getD j 0).toNat) % 16 : Nat) : Int)) rfl (by rw [u32_and15 _ hq2]) ?_
      refine gl_ixB 0 (default) hT hS rfl rfl rfl rfl rfl el85.cellsOf.1 el85.cellsOf.2 rfl rfl rfl (by omega) (by omega) rfl fun hp37 => ?_
      rw [Int.toNat_natCast, halfV_get _ (Nat.mod_lt _ (by decide))] at hp37
      refine gl_op rfl rfl rfl (op_load hT rfl rfl rfl rfl hp37) ?_
      refine gl_op rfl rfl rfl (op_pure hT rfl) ?_
      refine gl_spell 39 (v := .int .u32 (byt q ((D.getD i []).getD j 0) : Nat)) rfl ?_ ?_
      · rw [byt_half]
        generalize stps 4 (q ^^^ ((D.getD i []).getD j 0).toNat) = y at hq2
        rw [stps4]
        have e16 : ∀ x : Nat, (x : Int) / 2 ^ 4 = ((x / 16 : Nat) : Int) := by intro x; omega
        show Value.int .u32 (bits .xor .u32 ((y : Int) / 2 ^ 4) _) = _
        rw [e16, u32_xor _ _ (by omega) (half_lt ⟨_, Nat.mod_lt _ (by decide)⟩)]
      refine gl_op rfl rfl rfl (op_pure hT rfl) ?_
      refine gl_nil ?_
      refine hK13 _ _ ?_
      clear hK13; try clear K13
      refine gc_region ?_
      first | refine gl_fit hT rfl rfl rfl rfl (by omega) ?_ | refine gl_op rfl rfl rfl (op_pure hT rfl) ?_
      refine gl_op rfl rfl rfl (op_pure hT rfl) ?_
      refine gl_nil ?_
      intro a ha
      refine ⟨j + 1, _, ha.sub ⟨rfl, rfl, rfl, rfl, rfl, rfl, rfl, rfl, rfl, trivial⟩, by omega, by omega, byt_lt hq _, ?_, hS⟩
      rw [← hgq, drop_at _ j (by omega), crcGo_cons]
    · try simp only [decide_eq_true_eq, decide_eq_false_iff_not, Bool.not_eq_true', Bool.not_eq_false', Int.not_lt, Int.not_le, Nat.not_lt, Nat.not_le, Bool.true_eq, Bool.false_eq, reduceCtorEq] at c19
      refine gc_exit ?_
      refine hK8 _ _ ?_
      clear hK8; try clear K8
      refine gc_region ?_
      first | refine gl_fit hT rfl rfl rfl rfl (by omega) ?_ | refine gl_op rfl rfl rfl (op_pure hT rfl) ?_
      refine gl_op rfl rfl rfl (op_pure hT rfl) ?_
      refine gl_nil ?_
      intro a ha
      have hje : j = (D.getD i []).length := by omega
      refine ⟨i + 1, _, _, ha.sub ⟨rfl, rfl, rfl, rfl, rfl, rfl, trivial⟩, by omega, by omega, hq, ?_, hS⟩
      rw [← hg, flat_drop D i (by omega), crcGo_append, ← hgq, hje, List.drop_length, crcGo_nil]
  · try simp only [decide_eq_true_eq, decide_eq_false_iff_not, Bool.not_eq_true', Bool.not_eq_false', Int.not_lt, Int.not_le, Nat.not_lt, Nat.not_le, Bool.true_eq, Bool.false_eq, reduceCtorEq] at c13
    refine gc_exit ?_
    refine hK4 _ _ ?_
    clear hK4; try clear K4
    refine gc_seq fun K17 hK17 => ?_
    refine gc_region ?_
    refine gl_op rfl rfl rfl (op_pure hT rfl) ?_
    refine gl_op rfl rfl rfl (op_pure hT rfl) ?_
    refine gl_op rfl rfl rfl (op_pure hT rfl) ?_
    refine gl_nil ?_
    refine hK17 _ _ ?_
    clear hK17; try clear K17
    refine gc_ret ?_
    try simp only [x_then_ret, x_block_ret]
    refine gk_ret1 rfl rfl ?_
    have hie : i = S.length := by omega
    have hgg : crcGo 4294967295 D.flatten = r := by rw [← hg, hie, hD, List.drop_length]; rfl
    refine ⟨?_, hS.below⟩
    have e1 : bits .xor .u32 (4294967295 : Int) (r : Int) = ((4294967295 - r : Nat) : Int) := by
      have := u32_xor 4294967295 r (by decide) hr
      rw [xor_ones r hr] at this
      exact this
    unfold crcV
    rw [hgg, ← e1]
    rfl
theorem Sum1_calls (A A1 : Option Addr) (c c1 : Nat) (l : List UInt8) (w : World) {ok ok1 : Nat → Prop} (h1 : RdE w ok sV A [(A1, l.length, c1)]) (h2 : RdE w ok1 uB A1 l) (hb : l.length ≤ 4611686018427387904) :
    Calls Tryd.prog 41 ⟨[.slice A 1 c]⟩ w fun e w' => e = .returned (.int .u32 (crcV l)) ∧ Below w.heap.size w w' := by
  have := Sum_calls A c [(A1, l.length, c1)] [l] w h1 (Parts.one h2 hb) (by simp)
  simpa using this
end Go.Proofs.YtnomlloaahoceaaDoor


/- Contracts of frames. No condition. -/
namespace Go.Proofs.YtnomlloaahoceaaDoor
open Go.RowKit
set_option linter.unusedVariables false
set_option linter.unusedSimpArgs false
theorem rfour_calls (v : Nat) (hv : v < 4294967296) (w : World) :
    Calls Tryd.prog 37 ⟨[.int .u32 v]⟩ w fun e w' => ∃ A c, e = .returned (.slice A (le4 v).length c) ∧ Owns w' w.heap.size A c 5 1 (le4 v).length ((le4 v).map uB) ∧ Below w.heap.size w w' := by
  refine gc_enter (N := 15) Tryd.func37 rfl rfl rfl [(0, _)] rfl ?_
  have hS := St.start w
  refine gc_seq fun K1 hK1 => ?_
  refine gc_region ?_
  refine gl_op rfl rfl rfl (op_pure hT rfl) ?_
  refine gl_nil ?_
  refine hK1 _ _ ?_
  clear hK1; try clear K1
  refine gc_seq fun K2 hK2 => ?_
  refine gc_region ?_
  refine gl_op rfl rfl rfl (op_pure hT rfl) ?_
  refine gl_op rfl rfl rfl (op_pure hT rfl) ?_
  refine gl_op rfl rfl rfl (op_pure hT rfl) ?_
  refine gl_op rfl rfl rfl (op_pure hT rfl) ?_
  refine gl_op rfl rfl rfl (op_pure hT rfl) ?_
  refine gl_op rfl rfl rfl (op_pure hT rfl) ?_
  refine gl_op rfl rfl rfl (op_pure hT rfl) ?_
  refine gl_op rfl rfl rfl (op_pure hT rfl) ?_
  refine gl_op rfl rfl rfl (op_pure hT rfl) ?_
  refine gl_op rfl rfl rfl (op_pure hT rfl) ?_
  refine gl_op rfl rfl rfl (op_pure hT rfl) ?_
  refine gl_lit hT hS el5 rfl rfl rfl rfl rfl rfl rfl rfl rfl fun g14 w14 hS => ?_
  refine gl_op rfl rfl rfl (op_pure hT rfl) ?_
  refine gl_nil ?_
  refine hK2 _ _ ?_
  clear hK2; try clear K2
  refine gc_ret ?_
  try simp only [x_then_ret, x_block_ret]
  refine gk_ret1 rfl rfl ?_
  obtain ⟨h2, h3⟩ := hS.out (i := 0) rfl
  have e1 := u8_wrap v
  have e2 := u8_wrap (v / 256)
  have e3 := u8_wrap (v / 65536)
  have e4 := u8_wrap (v / 16777216)
  simp only [Int.natCast_ediv] at e2 e3 e4
  have e5 : [Value.int .u8 (IntKind.u8.wrap v), .int .u8 (IntKind.u8.wrap ((v : Int) / 2 ^ 8)), .int .u8 (IntKind.u8.wrap ((v : Int) / 2 ^ 16)), .int .u8 (IntKind.u8.wrap ((v : Int) / 2 ^ 24))] = (le4 v).map uB := by
    simp only [le4, List.map_cons, List.map_nil]
    rw [← e1, ← e2, ← e3, ← e4]
    rfl
  have h4 : Owns w14 w.heap.size (some ⟨g14, 0, none⟩) 4 5 1 4 [Value.int .u8 (IntKind.u8.wrap v), .int .u8 (IntKind.u8.wrap ((v : Int) / 2 ^ 8)), .int .u8 (IntKind.u8.wrap ((v : Int) / 2 ^ 16)), .int .u8 (IntKind.u8.wrap ((v : Int) / 2 ^ 24))] := h2
  rw [e5] at h4
  exact ⟨_, _, rfl, h4, h3⟩
end Go.Proofs.YtnomlloaahoceaaDoor


/- Contracts of the document's frames. No condition. -/
namespace Go.Proofs.YtnomlloaahoceaaDoor
open Go.RowKit
set_option linter.unusedVariables false
set_option linter.unusedSimpArgs false
theorem rSum_calls (A : Option Addr) (c : Nat) (S : List Sl) (D : List (List UInt8)) (w : World) {ok : Nat → Prop} (h1 : RdE w ok sV A S) (hp : Parts w S D) (hb : S.length ≤ 4611686018427387904) :
    Calls Tryd.prog 38 ⟨[.slice A S.length c]⟩ w fun e w' => e = .returned (.int .u32 (crcV D.flatten)) ∧ Eqv w w' := by
  refine gc_enter (N := 50) Tryd.func38 rfl rfl rfl [(0, _)] rfl ?_
  refine gc_seq fun K1 hK1 => ?_
  refine gc_region ?_
  refine gl_op rfl rfl rfl (op_pure hT rfl) ?_
  refine gl_nil ?_
  refine hK1 _ _ ?_
  clear hK1; try clear K1
  refine gc_seq fun K2 hK2 => ?_
  refine gc_region ?_
  refine gl_op rfl rfl rfl (op_pure hT rfl) ?_
  refine gl_nil ?_
  refine hK2 _ _ ?_
  clear hK2; try clear K2
  refine gc_seq fun K3 hK3 => ?_
  refine gc_seq fun K4 hK4 => ?_
  refine gc_region ?_
  refine gl_op rfl rfl rfl (op_pure hT rfl) ?_
  refine gl_nil ?_
  refine hK4 _ _ ?_
  clear hK4; try clear K4
  refine gc_block ?_
  have hD := hp.1
  refine gc_loop (fun k a w' => ∃ (i r : Nat), Fr 50 a [(0, .slice A S.length c), (3, .int .u32 r), (4, .int .i64 i)] ∧ i ≤ S.length ∧ k = S.length - i + 1 ∧ r < 4294967296 ∧ crcGo r (D.drop i).flatten = crcGo 4294967295 D.flatten ∧ w = w') (S.length + 1) ?_ ?_ ?_
  · intro a ha; exact ⟨0, 4294967295, ha.sub ⟨rfl, rfl, rfl, trivial⟩, by omega, by omega, by decide, rfl, rfl⟩
  · rintro a w ⟨i, r, _, h1, h2, _⟩; omega
  rintro k a _ ⟨i, r, hF, hi, hk, hr, hg, rfl⟩
  refine gc_of hF ?_
  refine gc_seq fun K5 hK5 => ?_
  refine gc_seq fun K6 hK6 => ?_
  refine gc_region ?_
  refine gl_op rfl rfl rfl (op_pure hT rfl) ?_
  refine gl_op rfl rfl rfl (op_pure hT rfl) ?_
  refine gl_op rfl rfl rfl (op_pure hT rfl) ?_
  refine gl_op rfl rfl rfl (op_pure hT rfl) ?_
  refine gl_nil ?_
  refine hK6 _ _ ?_
  clear hK6; try clear K6
  refine gc_cond rfl rfl (fun c12 => ?_) (fun c12 => ?_)
  · try simp only [decide_eq_true_eq, decide_eq_false_iff_not, Bool.not_eq_true', Bool.not_eq_false', Int.not_lt, Int.not_le, Nat.not_lt, Nat.not_le, Bool.true_eq, Bool.false_eq, reduceCtorEq] at c12
    refine gc_skip ?_
    refine hK5 _ _ ?_
    clear hK5; try clear K5
    refine gc_seq fun K7 hK7 => ?_
    refine gc_block ?_
    refine gc_seq fun K8 hK8 => ?_
    refine gc_region ?_
    refine gl_op rfl rfl rfl (op_pure hT rfl) ?_
    refine gl_nil ?_
    refine hK8 _ _ ?_
    clear hK8; try clear K8
    refine gc_block ?_
    have hpi := hp.2 i (by omega)
    have hln := hpi.2.1
    have hst : (S.getD ((i : Int)).toNat sl0) = S.getD i sl0 := by simp
    refine gc_loop (fun k a w' => ∃ (j q : Nat), Fr 50 a [(0, .slice A S.length c), (3, .int .u32 q), (4, .int .i64 i), (5, .int .i64 j)] ∧ j ≤ (D.getD i []).length ∧ k = (D.getD i []).length - j + 1 ∧ q < 4294967296 ∧ crcGo q ((D.getD i []).drop j) = crcGo r (D.getD i []) ∧ w = w') ((D.getD i []).length + 1) ?_ ?_ ?_
    · intro a ha; exact ⟨0, r, ha.sub ⟨rfl, rfl, rfl, rfl, trivial⟩, by omega, by omega, hr, rfl, rfl⟩
    · rintro a w ⟨j, q, _, h1, h2, _⟩; omega
    rintro k2 a _ ⟨j, q, hF, hj, hk2, hq, hgq, rfl⟩
    refine gc_of hF ?_
    refine gc_seq fun K9 hK9 => ?_
    refine gc_seq fun K10 hK10 => ?_
    refine gc_region ?_
    refine gl_op rfl rfl rfl (op_pure hT rfl) ?_
    refine gl_op rfl rfl rfl (op_pure hT rfl) ?_
    refine gl_op rfl rfl rfl (op_pure hT rfl) ?_
    refine gl_ix sl0 hT h1 rfl rfl rfl rfl rfl el31.cellsOf.1 el31.cellsOf.2 rfl (by simp) rfl (by omega) (by first | omega | (simp; omega)) fun p18 hp18 => ?_
    rw [hst] at hp18
    refine gl_op rfl rfl rfl (op_load hT rfl rfl rfl rfl hp18) ?_
    refine gl_op rfl rfl rfl (op_pure hT rfl) ?_
    refine gl_spell 20 (v := .int .i64 ((D.getD i []).length : Nat)) rfl (by rw [hpi.1]) ?_
    refine gl_op rfl rfl rfl (op_pure hT rfl) ?_
    refine gl_nil ?_
    refine hK10 _ _ ?_
    clear hK10; try clear K10
    refine gc_cond rfl rfl (fun c21 => ?_) (fun c21 => ?_)
    · try simp only [decide_eq_true_eq, decide_eq_false_iff_not, Bool.not_eq_true', Bool.not_eq_false', Int.not_lt, Int.not_le, Nat.not_lt, Nat.not_le, Bool.true_eq, Bool.false_eq, reduceCtorEq] at c21
      refine gc_skip ?_
      refine hK9 _ _ ?_
      clear hK9; try clear K9
      refine gc_seq fun K11 hK11 => ?_
      refine gc_block ?_
      refine gc_seq fun K12 hK12 => ?_
      refine gc_region ?_
      refine gl_op rfl rfl rfl (op_pure hT rfl) ?_
      refine gl_op rfl rfl rfl (op_pure hT rfl) ?_
      refine gl_ix sl0 hT h1 rfl rfl rfl rfl rfl el31.cellsOf.1 el31.cellsOf.2 rfl (by simp) rfl (by omega) (by first | omega | (simp; omega)) fun p26 hp26 => ?_
      rw [hst] at hp26
      refine gl_op rfl rfl rfl (op_load hT rfl rfl rfl rfl hp26) ?_
      refine gl_op rfl rfl rfl (op_pure hT rfl) ?_
      refine gl_ix (0 : UInt8) hT hpi.2.2 rfl rfl rfl rfl rfl el5.cellsOf.1 el5.cellsOf.2 rfl hpi.1 rfl (by omega) (by first | omega | (simp; omega)) fun p29 hp29 => ?_
      refine gl_op rfl rfl rfl (op_load hT rfl rfl rfl rfl hp29) ?_
      refine gl_op rfl rfl rfl (op_pure hT rfl) ?_
      refine gl_nil ?_
      refine hK12 _ _ ?_
      clear hK12; try clear K12
      refine gc_seq fun K13 hK13 => ?_
      refine gc_region ?_
      refine gl_op rfl rfl rfl (op_pure hT rfl) ?_
      refine gl_nil ?_
      refine hK13 _ _ ?_
      clear hK13; try clear K13
      refine gc_block ?_
      have hx : ((j : Int)).toNat = j := by omega
      have hx8 := u8_range ((D.getD i []).getD j 0)
      refine gc_loop (fun k a w' => ∃ (b u : Nat), Fr 50 a [(0, .slice A S.length c), (3, .int .u32 u), (4, .int .i64 i), (5, .int .i64 j), (6, .int .u8 ((((D.getD i []).getD j 0).toNat / 2 ^ b : Nat) : Int)), (7, .int .i64 b)] ∧ b ≤ 8 ∧ k = 9 - b ∧ u < 4294967296 ∧ u ^^^ ((D.getD i []).getD j 0).toNat / 2 ^ b = stps b (q ^^^ ((D.getD i []).getD j 0).toNat) ∧ w = w') 9 ?_ ?_ ?_
      · intro a ha; exact ⟨0, q, ha.sub ⟨rfl, rfl, rfl, rfl, by show some (uB ((D.getD i []).getD ((j : Int)).toNat 0)) = _; rw [hx, Nat.pow_zero, Nat.div_one]; rfl, rfl, trivial⟩, by omega, by omega, hq, by simp [stps], rfl⟩
      · rintro a w ⟨b, u, _, h1, h2, _⟩; omega
      rintro k3 a _ ⟨b, u, hF, hb8, hk3, hu, hst2, rfl⟩
      refine gc_of hF ?_
      have hxb : ((D.getD i []).getD j 0).toNat / 2 ^ b ≤ ((D.getD i []).getD j 0).toNat := Nat.div_le_self _ _
      have hstep := stp_pair u (((D.getD i []).getD j 0).toNat / 2 ^ b)
      have hpow : ((D.getD i []).getD j 0).toNat / 2 ^ b / 2 = ((D.getD i []).getD j 0).toNat / 2 ^ (b + 1) := by rw [Nat.div_div_eq_div_mul, Nat.pow_succ]
      rw [hpow] at hstep
      generalize hyb : ((D.getD i []).getD j 0).toNat / 2 ^ b = y at hxb hF hst2 hstep hpow
      refine gc_seq fun K14 hK14 => ?_
      refine gc_seq fun K15 hK15 => ?_
      refine gc_region ?_
      refine gl_op rfl rfl rfl (op_pure hT rfl) ?_
      refine gl_op rfl rfl rfl (op_pure hT rfl) ?_
      refine gl_nil ?_
      refine hK15 _ _ ?_
      clear hK15; try clear K15
      refine gc_cond rfl rfl (fun c32 => ?_) (fun c32 => ?_)
      · try simp only [decide_eq_true_eq, decide_eq_false_iff_not, Bool.not_eq_true', Bool.not_eq_false', Int.not_lt, Int.not_le, Nat.not_lt, Nat.not_le, Bool.true_eq, Bool.false_eq, reduceCtorEq] at c32
        refine gc_skip ?_
        refine hK14 _ _ ?_
        clear hK14; try clear K14
        refine gc_seq fun K16 hK16 => ?_
        refine gc_block ?_
        refine gc_seq fun K17 hK17 => ?_
        refine gc_region ?_
        refine gl_op rfl rfl rfl (op_pure hT rfl) ?_
        refine gl_op rfl rfl rfl (op_rem hT rfl (by omega)) ?_
        refine gl_op rfl rfl rfl (op_pure hT rfl) ?_
        refine gl_op rfl rfl rfl (op_pure hT rfl) ?_
        refine gl_spell 38 (v := .int .u32 (y : Nat)) rfl (by rw [IntKind.wrap_u32, Int.emod_eq_of_lt (by omega) (by omega)]) ?_
        refine gl_op rfl rfl rfl (op_rem hT rfl (by omega)) ?_
        refine gl_op rfl rfl rfl (op_pure hT rfl) ?_
        refine gl_op rfl rfl rfl (op_pure hT rfl) ?_
        refine gl_nil ?_
        refine hK17 _ _ ?_
        clear hK17; try clear K17
        refine gc_seq fun K18 hK18 => ?_
        refine gc_region ?_
        refine gl_op rfl rfl rfl (op_pure hT rfl) ?_
        refine gl_op rfl rfl rfl (op_pure hT rfl) ?_
        refine gl_spell 42 (v := .int .u32 (u / 2 : Nat)) rfl (by rw [Int.tdiv_eq_ediv_of_nonneg (by omega), IntKind.wrap_u32, Int.emod_eq_of_lt (by omega) (by omega)]; rfl) ?_
        refine gl_op rfl rfl rfl (op_pure hT rfl) ?_
        refine gl_nil ?_
        refine hK18 _ _ ?_
        clear hK18; try clear K18
        refine gc_seq fun K19 hK19 => ?_
        refine gc_region ?_
        refine gl_op rfl rfl rfl (op_pure hT rfl) ?_
        refine gl_op rfl rfl rfl (op_pure hT rfl) ?_
        refine gl_spell 44 (v := .int .u8 (y / 2 : Nat)) rfl (by rw [Int.tdiv_eq_ediv_of_nonneg (by omega), IntKind.wrap_u8, Int.emod_eq_of_lt (by omega) (by omega)]; rfl) ?_
        refine gl_op rfl rfl rfl (op_pure hT rfl) ?_
        refine gl_nil ?_
        refine hK19 _ _ ?_
        clear hK19; try clear K19
        refine gc_seq fun K20 hK20 => ?_
        refine gc_region ?_
        refine gl_op rfl rfl rfl (op_pure hT rfl) ?_
        refine gl_nil ?_
        refine hK20 _ _ ?_
        clear hK20; try clear K20
        refine gc_cond rfl rfl (fun c45 => ?_) (fun c45 => ?_)
        · try simp only [decide_eq_true_eq, decide_eq_false_iff_not, Bool.not_eq_true', Bool.not_eq_false', Int.not_lt, Int.not_le, Nat.not_lt, Nat.not_le, Bool.true_eq, Bool.false_eq, reduceCtorEq] at c45
          refine gc_region ?_
          refine gl_op rfl rfl rfl (op_pure hT rfl) ?_
          refine gl_op rfl rfl rfl (op_pure hT rfl) ?_
          refine gl_spell 47 (v := .int .u32 ((u / 2 ^^^ poly : Nat) : Int)) rfl (by rw [← u32_xor _ _ (by omega) (by decide)]; rfl) ?_
          refine gl_op rfl rfl rfl (op_pure hT rfl) ?_
          refine gl_nil ?_
          refine hK16 _ _ ?_
          clear hK16; try clear K16
          refine gc_region ?_
          refine gl_op rfl rfl rfl (op_pure hT rfl) ?_
          first | refine gl_fit hT rfl rfl rfl rfl (by omega) ?_ | refine gl_op rfl rfl rfl (op_pure hT rfl) ?_
          refine gl_op rfl rfl rfl (op_pure hT rfl) ?_
          refine gl_nil ?_
          intro a ha
          first
            | (have hne : u % 2 ≠ y % 2 := by omega
               rw [if_pos hne] at hstep
               refine ⟨b + 1, _, ha.sub ⟨rfl, rfl, rfl, rfl, by rw [← hpow]; rfl, rfl, trivial⟩, by omega, by omega, xor_lt32 (by omega) (by decide), ?_, rfl⟩
               rw [← hstep, hst2, stps_succ'])
            | (have heq : ¬ u % 2 ≠ y % 2 := by omega
               rw [if_neg heq] at hstep
               refine ⟨b + 1, _, ha.sub ⟨rfl, rfl, rfl, rfl, by rw [← hpow]; rfl, rfl, trivial⟩, by omega, by omega, by omega, ?_, rfl⟩
               rw [← hstep, hst2, stps_succ'])
        · try simp only [decide_eq_true_eq, decide_eq_false_iff_not, Bool.not_eq_true', Bool.not_eq_false', Int.not_lt, Int.not_le, Nat.not_lt, Nat.not_le, Bool.true_eq, Bool.false_eq, reduceCtorEq] at c45
          refine gc_skip ?_
          refine hK16 _ _ ?_
          clear hK16; try clear K16
          refine gc_region ?_
          refine gl_op rfl rfl rfl (op_pure hT rfl) ?_
          first | refine gl_fit hT rfl rfl rfl rfl (by omega) ?_ | refine gl_op rfl rfl rfl (op_pure hT rfl) ?_
          refine gl_op rfl rfl rfl (op_pure hT rfl) ?_
          refine gl_nil ?_
          intro a ha
          first
            | (have hne : u % 2 ≠ y % 2 := by omega
               rw [if_pos hne] at hstep
               refine ⟨b + 1, _, ha.sub ⟨rfl, rfl, rfl, rfl, by rw [← hpow]; rfl, rfl, trivial⟩, by omega, by omega, xor_lt32 (by omega) (by decide), ?_, rfl⟩
               rw [← hstep, hst2, stps_succ'])
            | (have heq : ¬ u % 2 ≠ y % 2 := by omega
               rw [if_neg heq] at hstep
               refine ⟨b + 1, _, ha.sub ⟨rfl, rfl, rfl, rfl, by rw [← hpow]; rfl, rfl, trivial⟩, by omega, by omega, by omega, ?_, rfl⟩
               rw [← hstep, hst2, stps_succ'])
      · try simp only [decide_eq_true_eq, decide_eq_false_iff_not, Bool.not_eq_true', Bool.not_eq_false', Int.not_lt, Int.not_le, Nat.not_lt, Nat.not_le, Bool.true_eq, Bool.false_eq, reduceCtorEq] at c32
        refine gc_exit ?_
        refine hK11 _ _ ?_
        clear hK11; try clear K11
        refine gc_region ?_
        refine gl_op rfl rfl rfl (op_pure hT rfl) ?_
        first | refine gl_fit hT rfl rfl rfl rfl (by omega) ?_ | refine gl_op rfl rfl rfl (op_pure hT rfl) ?_
        refine gl_op rfl rfl rfl (op_pure hT rfl) ?_
        refine gl_nil ?_
        intro a ha
        have hb8' : b = 8 := by omega
        subst hb8'
        refine ⟨j + 1, u, ha.sub ⟨rfl, rfl, rfl, rfl, trivial⟩, by omega, by omega, hu, ?_, rfl⟩
        have hy0 : y = 0 := by
          have := ((D.getD i []).getD j 0).toNat_lt
          omega
        rw [hy0, Nat.xor_zero] at hst2
        rw [← hgq, drop_at _ j (by omega), crcGo_cons, hst2]
        rfl
    · try simp only [decide_eq_true_eq, decide_eq_false_iff_not, Bool.not_eq_true', Bool.not_eq_false', Int.not_lt, Int.not_le, Nat.not_lt, Nat.not_le, Bool.true_eq, Bool.false_eq, reduceCtorEq] at c21
      refine gc_exit ?_
      refine hK7 _ _ ?_
      clear hK7; try clear K7
      refine gc_region ?_
      refine gl_op rfl rfl rfl (op_pure hT rfl) ?_
      first | refine gl_fit hT rfl rfl rfl rfl (by omega) ?_ | refine gl_op rfl rfl rfl (op_pure hT rfl) ?_
      refine gl_op rfl rfl rfl (op_pure hT rfl) ?_
      refine gl_nil ?_
      intro a ha
      have hje : j = (D.getD i []).length := by omega
      refine ⟨i + 1, _, ha.sub ⟨rfl, rfl, rfl, trivial⟩, by omega, by omega, hq, ?_, rfl⟩
      rw [← hg, flat_drop D i (by omega), crcGo_append, ← hgq, hje, List.drop_length, crcGo_nil]
  · try simp only [decide_eq_true_eq, decide_eq_false_iff_not, Bool.not_eq_true', Bool.not_eq_false', Int.not_lt, Int.not_le, Nat.not_lt, Nat.not_le, Bool.true_eq, Bool.false_eq, reduceCtorEq] at c12
    refine gc_exit ?_
    refine hK3 _ _ ?_
    clear hK3; try clear K3
    refine gc_seq fun K21 hK21 => ?_
    refine gc_region ?_
    refine gl_op rfl rfl rfl (op_pure hT rfl) ?_
    refine gl_op rfl rfl rfl (op_pure hT rfl) ?_
    refine gl_op rfl rfl rfl (op_pure hT rfl) ?_
    refine gl_nil ?_
    refine hK21 _ _ ?_
    clear hK21; try clear K21
    refine gc_ret ?_
    try simp only [x_then_ret, x_block_ret]
    refine gk_ret1 rfl rfl ?_
    have hie : i = S.length := by omega
    have hgg : crcGo 4294967295 D.flatten = r := by rw [← hg, hie, hD, List.drop_length]; rfl
    refine ⟨?_, Eqv.refl _⟩
    unfold crcV
    rw [hgg]
    show Ending.returned (Value.int .u32 (IntKind.u32.wrap (4294967295 - (r : Int)))) = _
    rw [IntKind.wrap_u32, Int.emod_eq_of_lt (by omega) (by omega)]
    congr 2
    omega
theorem Sealed_calls (A : Option Addr) (c : Nat) (l : List UInt8) (w : World) {ok : Nat → Prop} (h1 : RdE w ok uB A l) (hb : l.length ≤ 4611686018427387904) :
    Calls Tryd.prog 19 ⟨[.slice A l.length c]⟩ w fun e w' => ∃ A c, e = .returned (.slice A (le4 (crcV l)).length c) ∧ Owns w' w.heap.size A c 5 1 (le4 (crcV l)).length ((le4 (crcV l)).map uB) ∧ Below w.heap.size w w' := by
  refine gc_enter (N := 7) Tryd.func19 rfl rfl rfl [(0, _)] rfl ?_
  have hS := St.start w
  refine gc_seq fun K1 hK1 => ?_
  refine gc_region ?_
  refine gl_op rfl rfl rfl (op_pure hT rfl) ?_
  refine gl_nil ?_
  refine hK1 _ _ ?_
  clear hK1; try clear K1
  refine gc_seq fun K2 hK2 => ?_
  refine gc_region ?_
  refine gl_op rfl rfl rfl (op_pure hT rfl) ?_
  refine gl_lit hT hS el31 rfl rfl rfl rfl rfl rfl rfl rfl rfl fun g4 w4 hS => ?_
  refine gl_callf rfl rfl rfl rfl Tryd.func38 rfl rfl rfl (rSum_calls _ _ [(A, l.length, c)] [l] _ (hS.rdE (l := [(A, l.length, c)]) (i := 0) rfl) (Parts.one (h1.old hS) hb) (by simp)) ?_
  rintro _ _ ⟨rfl, n5, rfl⟩
  refine ⟨_, rfl, ?_⟩
  have hS := hS.dr n5
  rw [show [l].flatten = l by simp]
  refine gl_callf rfl rfl rfl rfl Tryd.func37 rfl rfl rfl (rfour_calls _ (crcV_lt _) _) ?_
  rintro _ w6 ⟨A6, c6, rfl, hr6, hb6⟩
  refine ⟨_, rfl, ?_⟩
  have hS := hS.addRow hb6 hr6
  refine gl_op rfl rfl rfl (op_pure hT rfl) ?_
  refine gl_nil ?_
  refine hK2 _ _ ?_
  clear hK2; try clear K2
  refine gc_ret ?_
  try simp only [x_then_ret, x_block_ret]
  refine gk_ret1 rfl rfl ?_
  obtain ⟨h2, h3⟩ := hS.out (i := 1) rfl
  exact ⟨_, _, rfl, h2, h3⟩
end Go.Proofs.YtnomlloaahoceaaDoor

