/- Contracts of functions that CodeNetBytes reaches, and words to say them. No condition. -/
import Derived.Test.YtnomlloaahoceaaGreatDoorZ05
import Derived.Test.YtnomlloaahoceaaGreatDoorZ03
import Derived.Test.YtnomlloaahoceaaGreatDoorZ06
import Derived.Test.YtnomlloaahoceaaGreatDoorZ02
/- Plain words for chapter 1: the bytes of a float's bits. No program in sight; no condition. -/
namespace Go.Proofs.YtnomlloaahoceaaGreatDoor
set_option linter.unusedVariables false
set_option linter.unusedSimpArgs false
def numB (u : Nat) : Bool := !decide (u / 4503599627370496 % 2048 = 2047)
def leB (u : Nat) : Nat → List UInt8
 | 0 => []
 | k + 1 => UInt8.ofNat u :: leB (u / 256) k
theorem leB_len (k : Nat) : ∀ u, (leB u k).length = k := by
 induction k with
 | zero => intro u; rfl
 | succ k ih => intro u; simp [leB, ih]
theorem leB_snoc (k : Nat) : ∀ u, leB u (k + 1) = leB u k ++ [UInt8.ofNat (u / 256 ^ k)] := by
 induction k with
 | zero => intro u; simp [leB]
 | succ k ih => intro u; rw [leB, ih]; simp only [leB, List.cons_append]; rw [Nat.div_div_eq_div_mul, Nat.pow_succ, Nat.mul_comm 256]
def floatV (u : Nat) : List UInt8 × Int := if numB u = false then ([], 15) else (leB u 8, 0)
def vLE (l : List UInt8) (at_ : Nat) : Nat → Nat
 | 0 => 0
 | k + 1 => vLE l at_ k + (l.getD (at_ + k) 0).toNat * 256 ^ k
theorem vLE_lt (l : List UInt8) (at_ : Nat) : ∀ k, vLE l at_ k < 256 ^ k := by
 intro k
 induction k with
 | zero => simp [vLE]
 | succ k ih =>
  have := (l.getD (at_ + k) 0).toNat_lt
  have h2 : (l.getD (at_ + k) 0).toNat * 256 ^ k ≤ 255 * 256 ^ k := Nat.mul_le_mul_right _ (by omega)
  rw [vLE, Nat.pow_succ]; omega
def vHi (l : List UInt8) (at_ : Nat) : Nat → Nat → Nat
 | _, 0 => 0
 | k, n + 1 => (l.getD (at_ + k) 0).toNat + 256 * vHi l at_ (k + 1) n
theorem vLE_hi (l : List UInt8) (at_ : Nat) : ∀ n k, vLE l at_ (k + n) = vLE l at_ k + 256 ^ k * vHi l at_ k n := by
 intro n
 induction n with
 | zero => intro k; simp [vHi]
 | succ n ih =>
  intro k
  have := ih (k + 1)
  rw [show k + 1 + n = k + (n + 1) by omega] at this
  rw [this, vLE, vHi, Nat.pow_succ, Nat.mul_add, Nat.mul_assoc, ← Nat.add_assoc, Nat.mul_comm (256 ^ k) (l.getD (at_ + k) 0).toNat]
theorem vLE_all (l : List UInt8) (at_ n : Nat) : vLE l at_ n = vHi l at_ 0 n := by
 have := vLE_hi l at_ n 0
 rw [Nat.zero_add] at this
 rw [this]; simp [vLE]
def readFloatV (l : List UInt8) (at_ : Int) : Nat × Int × Int :=
 if at_ < 0 ∨ (l.length : Int) < at_ then (0, 0, 1) else
 if (l.length : Int) - at_ < 8 then (0, 0, 10) else
 if numB (vLE l at_.toNat 8) = false then (0, 0, 15) else (vLE l at_.toNat 8, at_ + 8, 0)
theorem ofInt_u64 (a : Nat) (ha : a < 18446744073709551616) : (BitVec.ofInt 64 (a : Int)).toNat = a := by
 rw [BitVec.ofInt_natCast, BitVec.toNat_ofNat]; exact Nat.mod_eq_of_lt ha
theorem u64_and2047 (a : Nat) (ha : a < 18446744073709551616) : Go.bits .and .u64 (a : Int) 2047 = ((a % 2048 : Nat) : Int) := by
 show Go.IntKind.u64.wrap ((BitVec.ofInt 64 (a : Int) &&& BitVec.ofInt 64 2047).toNat : Int) = _
 have h2 : (BitVec.ofInt 64 2047).toNat = 2047 := by decide
 rw [BitVec.toNat_and, ofInt_u64 a ha, h2, IntKind.wrap_u64]
 rw [show (2047 : Nat) = 2 ^ 11 - 1 by rfl, Nat.and_two_pow_sub_one_eq_mod]
 omega
theorem u64_or (a b : Nat) (ha : a < 18446744073709551616) (hb : b < 18446744073709551616) : Go.bits .or .u64 (a : Int) (b : Int) = ((a ||| b : Nat) : Int) := by
 show Go.IntKind.u64.wrap ((BitVec.ofInt 64 (a : Int) ||| BitVec.ofInt 64 (b : Int)).toNat : Int) = _
 have h3 : a ||| b < 2 ^ 64 := Nat.or_lt_two_pow (by omega) (by omega)
 rw [BitVec.toNat_or, ofInt_u64 a ha, ofInt_u64 b hb, IntKind.wrap_u64]
 omega
theorem pow256 (i : Nat) : (2 : Nat) ^ (8 * i) = 256 ^ i := by rw [Nat.pow_mul]
theorem pow256_le {i j : Nat} (h : i ≤ j) : 256 ^ i ≤ 256 ^ j := Nat.pow_le_pow_right (by decide) h
theorem or_step8 (v c i : Nat) (hi : i < 8) (hv : v < 256 ^ i) (hc : c < 256) :
 Go.bits .or .u64 (v : Int) (Go.IntKind.u64.wrap ((c : Int) * 2 ^ (8 * (i : Int)).toNat)) = ((v + c * 256 ^ i : Nat) : Int) ∧ v + c * 256 ^ i < 18446744073709551616 := by
 have e1 : (8 * (i : Int)).toNat = 8 * i := by omega
 have e2 : ((c : Int) * 2 ^ (8 * i)) = ((c * 256 ^ i : Nat) : Int) := by rw [← pow256]; push_cast; rfl
 have h8 : 256 ^ (i + 1) ≤ 256 ^ 8 := pow256_le (by omega)
 have h10 : c * 256 ^ i ≤ 255 * 256 ^ i := Nat.mul_le_mul_right _ (by omega)
 have h11 : 256 ^ (i + 1) = 256 * 256 ^ i := by rw [Nat.pow_succ, Nat.mul_comm]
 have h12 : (256 : Nat) ^ 8 = 18446744073709551616 := by decide
 have hlt : c * 256 ^ i < 18446744073709551616 := by omega
 refine ⟨?_, by omega⟩
 have hw : Go.IntKind.u64.wrap ((c * 256 ^ i : Nat) : Int) = ((c * 256 ^ i : Nat) : Int) := by
  rw [IntKind.wrap_u64]
  generalize c * 256 ^ i = y at hlt
  omega
 rw [e1, e2, hw, u64_or _ _ (by omega) hlt]
 congr 1
 rw [Nat.or_comm, nat_join (8 * i) (c * 256 ^ i) v (by rw [← pow256]; exact Nat.mul_mod_left _ _) (by rw [pow256]; exact hv), Nat.add_comm]
theorem shr_byte (u i : Nat) : Value.int .u8 (IntKind.u8.wrap ((u : Int) / 2 ^ (8 * (i : Int)).toNat)) = uB (UInt8.ofNat (u / 256 ^ i)) := by
 have e1 : (8 * (i : Int)).toNat = 8 * i := by omega
 have e2 : (u : Int) / 2 ^ (8 * i) = ((u / 256 ^ i : Nat) : Int) := by rw [← pow256]; push_cast; rfl
 rw [e1, e2, u8_wrap]
end Go.Proofs.YtnomlloaahoceaaGreatDoor

/- Contracts of floats, and the walk of WireFloats. No condition. -/
namespace Go.Proofs.YtnomlloaahoceaaGreatDoor
open Go.RowKit
set_option linter.unusedVariables false
set_option linter.unusedSimpArgs false
theorem fine_calls (u : Nat) (hu : u < 18446744073709551616) (w : World) :
 Calls Tryz.prog 96 ⟨[.int .u64 u]⟩ w fun e w' => e = .returned (.bool (numB u)) ∧ Eqv w w' := by
 refine gc_enter (N := 7) Tryz.func96 rfl rfl rfl [(0, _)] rfl ?_
 refine gc_seq fun K1 hK1 => gc_region (Zp rfl (gl_nil (hK1 _ _ (gc_seq fun K2 hK2 => gc_region (Zp rfl (Zp rfl ?_))))))
 have e1 : (u : Int) / 2 ^ 52 = ((u / 4503599627370496 : Nat) : Int) := by omega
 refine Zp rfl (gl_spell 5 (v := .int .u64 ((u / 4503599627370496 % 2048 : Nat) : Int)) rfl ?_ ?_)
 ·show Value.int .u64 (bits .and .u64 ((u : Int) / 2 ^ 52) 2047) = _
  rw [e1, u64_and2047 _ (by omega)]
 refine Zp rfl (Zp rfl (gl_nil (hK2 _ _ (gc_ret ?_))))
 simp only [XR]
 refine gk_ret1 rfl rfl ?_
 exact ⟨by unfold numB; congr 3; rw [Bool.eq_iff_iff]; simp; omega, Eqv.refl _⟩
theorem number_calls (u : Nat) (hu : u < 18446744073709551616) (w : World) :
 Calls Tryz.prog 103 ⟨[.int .u64 u]⟩ w fun e w' => e = .returned (.bool (numB u)) ∧ Eqv w w' := by
 refine gc_enter (N := 7) Tryz.func103 rfl rfl rfl [(0, _)] rfl ?_
 refine gc_seq fun K1 hK1 => gc_region (Zp rfl (gl_nil (hK1 _ _ (gc_seq fun K2 hK2 => gc_region (Zp rfl (Zp rfl ?_))))))
 have e1 : (u : Int) / 2 ^ 52 = ((u / 4503599627370496 : Nat) : Int) := by omega
 refine Zp rfl (gl_spell 5 (v := .int .u64 ((u / 4503599627370496 % 2048 : Nat) : Int)) rfl ?_ ?_)
 ·show Value.int .u64 (bits .and .u64 ((u : Int) / 2 ^ 52) 2047) = _
  rw [e1, u64_and2047 _ (by omega)]
 refine Zp rfl (Zp rfl (gl_nil (hK2 _ _ (gc_ret ?_))))
 simp only [XR]
 refine gk_ret1 rfl rfl ?_
 exact ⟨by unfold numB; congr 3; rw [Bool.eq_iff_iff]; simp; omega, Eqv.refl _⟩
theorem Bits_calls (b : Nat) (w : World) : Calls Tryz.prog 67 ⟨[.float .f64 b]⟩ w fun e w' => e = .returned (.int .u64 b) ∧ Eqv w w' := by
 refine gc_enter (N := 5) Tryz.func67 rfl rfl rfl [(0, _)] rfl ?_
 refine gc_seq fun K1 hK1 => gc_region (Zp rfl (gl_nil (hK1 _ _ (gc_seq fun K2 hK2 => gc_region (Zp rfl (gl_op rfl rfl rfl (op_extern (ext := Extern.MathFloatBits.float64bits) rfl Tryz.func91 (by kernel_rfl) (by kernel_rfl) (by kernel_rfl) (by kernel_rfl) rfl (fun _ => rfl)) ?_))))))
 refine Zp rfl (gl_nil (hK2 _ _ (gc_ret (gk_ret1 rfl rfl ?_))))
 exact ⟨rfl, Eqv.refl _⟩
theorem ApiFloat_calls (b : Nat) (w : World) : Calls Tryz.prog 99 ⟨[.int .u64 b]⟩ w fun e w' => e = .returned (.float .f64 b) ∧ Eqv w w' := by
 refine gc_enter (N := 5) Tryz.func99 rfl rfl rfl [(0, _)] rfl ?_
 refine gc_seq fun K1 hK1 => gc_region (Zp rfl (gl_nil (hK1 _ _ (gc_seq fun K2 hK2 => gc_region (Zp rfl (gl_op rfl rfl rfl (op_extern (ext := Extern.MathFloatBits.float64frombits) rfl Tryz.func112 (by kernel_rfl) (by kernel_rfl) (by kernel_rfl) (by kernel_rfl) rfl (fun _ => rfl)) ?_))))))
 refine Zp rfl (gl_nil (hK2 _ _ (gc_ret (gk_ret1 rfl rfl ?_))))
 exact ⟨rfl, Eqv.refl _⟩
def fillB (u i : Nat) : List Value := (leB u i).map uB ++ List.replicate (8 - i) (.int .u8 0)
theorem fill_set (u i : Nat) (h : i < 8) : (fillB u i).set i (uB (UInt8.ofNat (u / 256 ^ i))) = fillB u (i + 1) := by
 unfold fillB
 rw [leB_snoc, show 8 - i = (8 - (i + 1)) + 1 by omega, List.replicate_succ]
 have hl : ((leB u i).map uB).length = i := by rw [List.length_map, leB_len]
 rw [List.set_append_right _ _ (by omega)]
 simp [hl]
theorem made_one (v : Value) (n : Nat) : (madeCells #[v] n).toList = List.replicate n v := by
 apply List.ext_getElem
 ·simp [madeCells]
 intro j h1 h2; simp [madeCells, Nat.mod_one]
theorem Float_calls (u : Nat) (hu : u < 18446744073709551616) (w : World) :
 Calls Tryz.prog 72 ⟨[.float .f64 u]⟩ w fun e w' => ∃ A c, e = .returned (.tuple #[.slice A (floatV u).1.length c, .int .i64 (floatV u).2]) ∧
  Owns w' w.heap.size A c 5 1 (floatV u).1.length ((floatV u).1.map uB) ∧ Below w.heap.size w w' := by
 refine gc_enter (N := 28) Tryz.func72 rfl rfl rfl [(0, _)] rfl ?_
 have hS := St.start w
 refine gc_seq fun K1 hK1 => gc_region (Zp rfl (Zp rfl (gl_nil (hK1 _ _ (gc_seq fun K2 hK2 => gc_region (Zp rfl (gl_callf rfl rfl rfl rfl Tryz.func67 rfl rfl rfl (Bits_calls u _) ?_)))))))
 rintro _ _ ⟨rfl, n8, rfl⟩
 refine ⟨_, rfl, ?_⟩
 have hS := hS.dr n8
 refine Zp rfl (gl_nil (hK2 _ _ (gc_seq fun K3 hK3 => gc_seq fun K4 hK4 => gc_region (Zp rfl (gl_callf rfl rfl rfl rfl Tryz.func96 rfl rfl rfl (fine_calls u hu _) ?_)))))
 rintro _ _ ⟨rfl, n10, rfl⟩
 refine ⟨_, rfl, ?_⟩
 have hS := hS.dr n10
 refine Zp rfl (gl_nil (hK4 _ _ (gc_cond rfl rfl (fun c11 => ?_) (fun c11 => ?_))))
 ·simp only [NN, reduceCtorEq] at c11
  refine gc_seq fun K5 hK5 => gc_region (Zp rfl (Zp rfl (gl_nil (hK5 _ _ (gc_ret ?_)))))
  simp only [XR]
  refine gk_ret2 rfl rfl rfl ?_
  have e1 : floatV u = ([], 15) := by unfold floatV; rw [if_pos c11]
  rw [e1]
  exact ⟨none, 0, rfl, owns_nil, hS.below⟩
 simp only [NN, reduceCtorEq] at c11
 refine gc_skip (hK3 _ _ (gc_seq fun K6 hK6 => gc_region (gl_make (n := 8) hT hS el5 rfl rfl rfl rfl rfl rfl rfl (by omega) (by omega) fun g12 w12 hS => ?_)))
 refine Zp rfl (gl_nil (hK6 _ _ (gc_seq fun K7 hK7 => gc_seq fun K8 hK8 => gc_region (Zp rfl (Zp rfl (Zp rfl (gl_nil (hK8 _ _ (gc_block ?_)))))))))
 have e0 : (madeCells (Value.int .u8 0).cells (8 * 1)).toList = fillB u 0 := by
  rw [show (Value.int .u8 0).cells = #[Value.int .u8 0] from rfl, made_one]; simp [fillB, leB]
 rw [e0] at hS
 refine gc_loop (fun k a w' => ∃ (i : Nat) (A : Option Addr), Fr 28 a [(4, .int .u64 u), (5, .slice A 8 8), (14, .int .i64 8), (15, .int .i64 i)] ∧ i ≤ 8 ∧ k = 9 - i ∧ St w.heap.size w w' [.row A 8 5 1 8 (fillB u i)]) 9 ?_ ?_ ?_
 ·intro a ha; exact ⟨0, _, ha.sub ⟨rfl, rfl, rfl, rfl, trivial⟩, by omega, by omega, hS⟩
 ·rintro a w ⟨i, _, _, h1, h2, _⟩; omega
 rintro k a w1 ⟨i, A, hF, hi, hk, hS⟩
 refine gc_of hF ?_
 refine gc_seq fun K9 hK9 => gc_region (Zp rfl (gl_nil (hK9 _ _ (gc_seq fun K10 hK10 => gc_cond rfl rfl (fun c16 => ?_) (fun c16 => ?_)))))
 ·simp only [NN, reduceCtorEq] at c16
  refine gc_skip (hK10 _ _ (gc_seq fun K11 hK11 => gc_block (gc_seq fun K12 hK12 => gc_region (Zp rfl (Zp rfl (gl_nil (hK12 _ _ (gc_region (Zp rfl (Zp rfl (Zp rfl (Zp rfl (Zi rfl (by omega) ?_)))))))))))))
  refine gl_op rfl rfl rfl (op_shr rfl rfl rfl (by omega) (by first | omega | (simp [IntKind.bits]; omega))) ?_
  refine Zp rfl (gl_ixR 0 hT hS rfl rfl rfl rfl rfl el5.cellsOf.1 el5.cellsOf.2 rfl rfl rfl (by omega) (by first | omega | (simp; omega)) (by first | exact Nat.le_refl _ | omega | (simp; omega)) fun g25 hg25 => ?_)
  cases hg25
  refine gl_storeR 0 hS el5.cellsOf.1 el5.cellsOf.2 rfl rfl rfl rfl rfl rfl (by first | omega | (simp; omega)) rfl fun ws25 hS => ?_
  refine gl_nil (hK11 _ _ (gc_region (Zi rfl (by omega) ?_)))
  refine Zp rfl (gl_nil ?_)
  intro a ha
  have hx : ((i : Int)).toNat = i := by omega
  rw [shr_byte, hx] at hS
  have hS : St w.heap.size w ws25 [.row (some ⟨g25, 0, none⟩) 8 5 1 8 ((fillB u i).set i (uB (UInt8.ofNat (u / 256 ^ i))))] := hS
  rw [fill_set u i (by omega)] at hS
  exact ⟨i + 1, _, ha.sub ⟨rfl, rfl, rfl, rfl, trivial⟩, by omega, by omega, hS⟩
 simp only [NN, reduceCtorEq] at c16
 refine gc_exit ?_
 refine hK7 _ _ (gc_seq fun K13 hK13 => gc_region (Zp rfl (Zp rfl (Zp rfl (gl_nil (hK13 _ _ (gc_ret (gk_ret2 rfl rfl rfl ?_))))))))
 have e1 : floatV u = (leB u 8, 0) := by unfold floatV; rw [if_neg (by simp [c11])]
 rw [e1]
 have hi8 : i = 8 := by omega
 subst hi8
 obtain ⟨h2, h3⟩ := hS.out (i := 0) rfl
 have e2 : fillB u 8 = (leB u 8).map uB := by simp [fillB]
 rw [e2] at h2
 exact ⟨A, 8, rfl, h2, h3⟩
theorem ReadFloat_calls (A : Option Addr) (c : Nat) (l : List UInt8) (at_ : Int) (w : World) {ok : Nat → Prop} (h1 : RdE w ok uB A l) (hb : l.length ≤ 4611686018427387904) (hmin : -9223372036854775808 ≤ at_) :
 Calls Tryz.prog 76 ⟨[.slice A l.length c, .int .i64 at_]⟩ w fun e w' => e = .returned (.tuple #[.float .f64 (readFloatV l at_).1, .int .i64 (readFloatV l at_).2.1, .int .i64 (readFloatV l at_).2.2]) ∧ Eqv w w' := by
 refine gc_enter (N := 45) Tryz.func76 rfl rfl rfl [(0, _), (1, _)] rfl ?_
 refine gc_seq fun K1 hK1 => gc_region (Zp rfl (Zp rfl (Zp rfl (gl_nil (hK1 _ _ (gc_seq fun K2 hK2 => gc_seq fun K3 hK3 => gc_region (Zp rfl (Zp rfl (Zp rfl (gl_split (t := 11) rfl (fun c11 => ?_) (fun c11 => ?_)))))))))))
 ·simp only [NN, reduceCtorEq] at c11
  refine Zs rfl (Zs rfl (Zs rfl (Zs rfl (Zp rfl (gl_nil (hK3 _ _ (gc_cond_t rfl (gc_seq fun K4 hK4 => gc_region (Zp rfl (Zp rfl (Zp rfl (gl_nil (hK4 _ _ (gc_ret ?_))))))))))))))
  simp only [XR]
  refine gk_ret3 rfl rfl rfl rfl ?_
  exact ⟨by unfold readFloatV; rw [if_pos (by omega)], Eqv.refl _⟩
 simp only [NN, reduceCtorEq] at c11
 refine Zu rfl (Zp rfl (Zu rfl (Zp rfl (Zu rfl (Zp rfl (Zu rfl (Zp rfl (Zp rfl (gl_nil (hK3 _ _ (gc_cond rfl rfl (fun c16 => ?_) (fun c16 => ?_))))))))))))
 ·simp only [NN, reduceCtorEq] at c16
  refine gc_seq fun K5 hK5 => gc_region (Zp rfl (Zp rfl (Zp rfl (gl_nil (hK5 _ _ (gc_ret ?_))))))
  simp only [XR]
  refine gk_ret3 rfl rfl rfl rfl ?_
  exact ⟨by unfold readFloatV; rw [if_pos (by omega)], Eqv.refl _⟩
 simp only [NN, reduceCtorEq] at c16
 refine gc_skip (hK2 _ _ (gc_seq fun K6 hK6 => gc_seq fun K7 hK7 => gc_region (Zp rfl (Zp rfl (Zp rfl (Zi rfl (by omega) ?_))))))
 refine Zp rfl (gl_nil (hK7 _ _ (gc_cond rfl rfl (fun c21 => ?_) (fun c21 => ?_))))
 ·simp only [NN, reduceCtorEq] at c21
  refine gc_seq fun K8 hK8 => gc_region (Zp rfl (Zp rfl (Zp rfl (gl_nil (hK8 _ _ (gc_ret ?_))))))
  simp only [XR]
  refine gk_ret3 rfl rfl rfl rfl ?_
  exact ⟨by unfold readFloatV; rw [if_neg (by omega), if_pos c21], Eqv.refl _⟩
 simp only [NN, reduceCtorEq] at c21
 refine gc_skip (hK6 _ _ (gc_seq fun K9 hK9 => gc_region (Zp rfl (gl_nil (hK9 _ _ (gc_seq fun K10 hK10 => gc_seq fun K11 hK11 => gc_region (Zp rfl (gl_nil (hK11 _ _ (gc_block (gc_loop (fun k a w' => ∃ (i : Nat), Fr 45 a [(0, .slice A l.length c), (1, .int .i64 at_), (7, .int .u64 (vLE l at_.toNat i : Nat)), (22, .int .i64 i)] ∧ i ≤ 8 ∧ k = 9 - i ∧ w = w') 9 ?_ ?_ ?_)))))))))))
 ·intro a ha; exact ⟨0, ha.sub ⟨rfl, rfl, rfl, rfl, trivial⟩, by omega, by omega, rfl⟩
 ·rintro a w ⟨i, _, h1, h2, _⟩; omega
 rintro k a _ ⟨i, hF, hi, hk, rfl⟩
 refine gc_of hF ?_
 have hv := vLE_lt l at_.toNat i
 refine gc_seq fun K12 hK12 => gc_region (Zp rfl (gl_nil (hK12 _ _ (gc_seq fun K13 hK13 => gc_cond rfl rfl (fun c23 => ?_) (fun c23 => ?_)))))
 ·simp only [NN, reduceCtorEq] at c23
  refine gc_skip (hK13 _ _ (gc_seq fun K14 hK14 => gc_block (gc_seq fun K15 hK15 => gc_region (Zp rfl (Zp rfl (gl_nil (hK15 _ _ (gc_region (Zp rfl (Zp rfl (Zp rfl (Zp rfl (Zi rfl (by omega) ?_)))))))))))))
  refine gl_ix (0 : UInt8) hT h1 rfl rfl rfl rfl rfl el5.cellsOf.1 el5.cellsOf.2 rfl (by simp) rfl (by omega) (by first | omega | (simp; omega)) fun p30 hp30 => ?_
  have hx : (at_ + (i : Int)).toNat = at_.toNat + i := by omega
  rw [hx] at hp30
  have hb8 := (l.getD (at_.toNat + i) 0).toNat_lt
  have hs := or_step8 (vLE l at_.toNat i) (l.getD (at_.toNat + i) 0).toNat i (by omega) hv (by omega)
  refine gl_op rfl rfl rfl (op_load hT rfl rfl rfl rfl hp30) ?_
  refine Zp rfl (gl_spell 32 (v := .int .u64 ((l.getD (at_.toNat + i) 0).toNat : Nat)) rfl (by rw [IntKind.wrap_u64, Int.emod_eq_of_lt (by omega) (by omega)]) ?_)
  refine Zp rfl (Zi rfl (by omega) ?_)
  refine gl_op rfl rfl rfl (op_shl rfl rfl rfl (by omega) (by first | omega | (simp [IntKind.bits]; omega))) ?_
  refine Zp rfl (gl_spell 36 (v := .int .u64 (vLE l at_.toNat (i + 1) : Nat)) rfl (by rw [hs.1]; rfl) ?_)
  refine Zp rfl (gl_nil (hK14 _ _ (gc_region (Zi rfl (by omega) ?_))))
  refine Zp rfl (gl_nil ?_)
  intro a ha
  exact ⟨i + 1, ha.sub ⟨rfl, rfl, rfl, rfl, trivial⟩, by omega, by omega, rfl⟩
 simp only [NN, reduceCtorEq] at c23
 refine gc_exit ?_
 refine hK10 _ _ (gc_seq fun K16 hK16 => gc_seq fun K17 hK17 => gc_region (Zp rfl ?_))
 have hi8 : i = 8 := by omega
 subst hi8
 have h12 : (256 : Nat) ^ 8 = 18446744073709551616 := by decide
 refine gl_callf rfl rfl rfl rfl Tryz.func96 rfl rfl rfl (fine_calls (vLE l at_.toNat 8) (by omega) _) ?_
 rintro _ _ ⟨rfl, n39, rfl⟩
 refine ⟨_, rfl, ?_⟩
 refine Zp rfl (gl_nil (hK17 _ _ (gc_cond rfl rfl (fun c40 => ?_) (fun c40 => ?_))))
 ·simp only [NN, reduceCtorEq] at c40
  refine gc_seq fun K18 hK18 => gc_region (Zp rfl (Zp rfl (Zp rfl (gl_nil (hK18 _ _ (gc_ret ?_))))))
  simp only [XR]
  refine gk_ret3 rfl rfl rfl rfl ?_
  exact ⟨by unfold readFloatV; rw [if_neg (by omega), if_neg (by omega), if_pos c40], ⟨_, rfl⟩⟩
 simp only [NN, reduceCtorEq] at c40
 refine gc_skip (hK16 _ _ (gc_seq fun K19 hK19 => gc_region (Zp rfl (gl_callf rfl rfl rfl rfl Tryz.func99 rfl rfl rfl (ApiFloat_calls _ _) ?_))))
 rintro _ _ ⟨rfl, n42, rfl⟩
 refine ⟨_, rfl, ?_⟩
 refine Zp rfl (Zi rfl (by omega) ?_)
 refine Zp rfl (Zp rfl (Zp rfl (gl_nil (hK19 _ _ (gc_ret (gk_ret3 rfl rfl rfl rfl ?_))))))
 exact ⟨by unfold readFloatV; rw [if_neg (by omega), if_neg (by omega), if_neg (by simp [c40])], ⟨_, rfl⟩⟩
theorem rReadFloat_calls (A : Option Addr) (c : Nat) (l : List UInt8) (at_ : Int) (w : World) {ok : Nat → Prop} (h1 : RdE w ok uB A l) (hb : l.length ≤ 4611686018427387904) (hmin : -9223372036854775808 ≤ at_) :
 Calls Tryz.prog 82 ⟨[.slice A l.length c, .int .i64 at_]⟩ w fun e w' => e = .returned (.tuple #[.int .u64 (readFloatV l at_).1, .int .i64 (readFloatV l at_).2.1, .int .i64 (readFloatV l at_).2.2]) ∧ Eqv w w' := by
 refine gc_enter (N := 37) Tryz.func82 rfl rfl rfl [(0, _), (1, _)] rfl ?_
 refine gc_seq fun K1 hK1 => gc_region (Zp rfl (Zp rfl (Zp rfl (gl_nil (hK1 _ _ (gc_seq fun K2 hK2 => gc_seq fun K3 hK3 => gc_region (Zp rfl (Zp rfl (gl_callf rfl rfl rfl rfl Tryz.func80 rfl rfl rfl (outside_calls A c l at_ _) ?_)))))))))
 rintro _ _ ⟨rfl, n11, rfl⟩
 refine ⟨_, rfl, ?_⟩
 refine gl_nil (hK3 _ _ (gc_cond rfl rfl (fun c11 => ?_) (fun c11 => ?_)))
 ·simp only [NN, reduceCtorEq] at c11
  refine gc_seq fun K4 hK4 => gc_region (Zp rfl (Zp rfl (Zp rfl (gl_nil (hK4 _ _ (gc_ret ?_))))))
  simp only [XR]
  refine gk_ret3 rfl rfl rfl rfl ?_
  have e1 : readFloatV l at_ = (0, 0, 1) := by unfold readFloatV; rw [if_pos (by omega)]
  exact ⟨by rw [e1]; rfl, ⟨_, rfl⟩⟩
 simp only [NN, reduceCtorEq] at c11
 refine gc_skip (hK2 _ _ (gc_seq fun K5 hK5 => gc_seq fun K6 hK6 => gc_region (Zp rfl (Zp rfl (Zp rfl (Zi rfl (by omega) ?_))))))
 refine Zp rfl (gl_nil (hK6 _ _ (gc_cond rfl rfl (fun c16 => ?_) (fun c16 => ?_))))
 ·simp only [NN, reduceCtorEq] at c16
  refine gc_seq fun K7 hK7 => gc_region (Zp rfl (Zp rfl (Zp rfl (gl_nil (hK7 _ _ (gc_ret ?_))))))
  simp only [XR]
  refine gk_ret3 rfl rfl rfl rfl ?_
  have e1 : readFloatV l at_ = (0, 0, 10) := by unfold readFloatV; rw [if_neg (by omega), if_pos c16]
  exact ⟨by rw [e1]; rfl, ⟨_, rfl⟩⟩
 simp only [NN, reduceCtorEq] at c16
 refine gc_skip (hK5 _ _ (gc_seq fun K8 hK8 => gc_region (Zp rfl (gl_nil (hK8 _ _ (gc_seq fun K9 hK9 => gc_seq fun K10 hK10 => gc_region (Zp rfl (gl_nil (hK10 _ _ (gc_block (gc_loop (fun k a w' => ∃ (m u : Nat), Fr 37 a [(0, .slice A l.length c), (1, .int .i64 at_), (7, .int .u64 u), (8, .int .i64 (7 - (m : Int)))] ∧ m ≤ 8 ∧ k = 9 - m ∧ u < 256 ^ m ∧ u = vHi l at_.toNat (8 - m) m ∧ Eqv w w') 9 ?_ ?_ ?_)))))))))))
 ·intro a ha; exact ⟨0, 0, ha.sub ⟨rfl, rfl, rfl, rfl, trivial⟩, by omega, by omega, by decide, rfl, ⟨_, rfl⟩⟩
 ·rintro a w ⟨m, u, _, h1, h2, _⟩; omega
 rintro k a _ ⟨m, u, hF, hm, hk, hv, hg, n, rfl⟩
 refine gc_of hF ?_
 have h12 : (256 : Nat) ^ 8 = 18446744073709551616 := by decide
 have hp := pow256_le (i := m) (j := 8) (by omega)
 refine gc_seq fun K11 hK11 => gc_seq fun K12 hK12 => gc_region (Zp rfl (Zp rfl (gl_nil (hK12 _ _ (gc_cond rfl rfl (fun c18 => ?_) (fun c18 => ?_))))))
 ·simp only [NN, reduceCtorEq] at c18
  refine gc_skip (hK11 _ _ (gc_seq fun K13 hK13 => gc_block (gc_region (Zp rfl ?_))))
  have hp2 := pow256_le (i := m + 1) (j := 8) (by omega)
  have hp3 : 256 ^ (m + 1) = 256 ^ m * 256 := Nat.pow_succ ..
  have hu8 : u * 256 + 255 < 18446744073709551616 := by omega
  refine Zp rfl (gl_spell 22 (v := .int .u64 (u * 256 : Nat)) rfl (by rw [IntKind.wrap_u64, Int.emod_eq_of_lt (by omega) (by omega)]; rfl) ?_)
  refine Zp rfl (Zp rfl (Zp rfl (Zi rfl (by omega) ?_)))
  refine gl_ix (0 : UInt8) hT h1 rfl rfl rfl rfl rfl el5.cellsOf.1 el5.cellsOf.2 rfl (by simp) rfl (by omega) (by first | omega | (simp; omega)) fun p27 hp27 => ?_
  have hx : (at_ + (7 - (m : Int))).toNat = at_.toNat + (7 - m) := by omega
  rw [hx] at hp27
  have hb8 := (l.getD (at_.toNat + (7 - m)) 0).toNat_lt
  refine gl_op rfl rfl rfl (op_load hT rfl rfl rfl rfl hp27) ?_
  refine Zp rfl (gl_spell 29 (v := .int .u64 ((l.getD (at_.toNat + (7 - m)) 0).toNat : Nat)) rfl (by rw [IntKind.wrap_u64, Int.emod_eq_of_lt (by omega) (by omega)]) ?_)
  refine Zp rfl (gl_spell 30 (v := .int .u64 (u * 256 + (l.getD (at_.toNat + (7 - m)) 0).toNat : Nat)) rfl (by rw [IntKind.wrap_u64, Int.emod_eq_of_lt (by omega) (by omega)]; rfl) ?_)
  refine Zp rfl (gl_nil (hK13 _ _ (gc_region (Zp rfl (Zi rfl (by omega) ?_)))))
  refine Zp rfl (gl_nil ?_)
  intro a ha
  refine ⟨m + 1, _, ha.sub ⟨rfl, rfl, rfl, ?_, trivial⟩, by omega, by omega, by omega, ?_, ⟨n, rfl⟩⟩
  ·refine congrArg some (?_ : Value.int .i64 _ = Value.int .i64 _)
   congr 1; omega
  rw [show 8 - (m + 1) = 7 - m by omega, vHi, show 7 - m + 1 = 8 - m by omega, ← hg]; omega
 simp only [NN, reduceCtorEq] at c18
 refine gc_exit ?_
 refine hK9 _ _ (gc_seq fun K14 hK14 => gc_seq fun K15 hK15 => gc_region (Zp rfl ?_))
 have hm8 : m = 8 := by omega
 subst hm8
 have hvu : vLE l at_.toNat 8 = u := by rw [hg]; exact vLE_all l at_.toNat 8
 refine gl_callf rfl rfl rfl rfl Tryz.func103 rfl rfl rfl (number_calls u (by omega) _) ?_
 rintro _ _ ⟨rfl, n32, rfl⟩
 refine ⟨_, rfl, ?_⟩
 rw [← hvu]
 refine Zp rfl (gl_nil (hK15 _ _ (gc_cond rfl rfl (fun c33 => ?_) (fun c33 => ?_))))
 ·simp only [NN, reduceCtorEq] at c33
  refine gc_seq fun K16 hK16 => gc_region (Zp rfl (Zp rfl (Zp rfl (gl_nil (hK16 _ _ (gc_ret ?_))))))
  simp only [XR]
  refine gk_ret3 rfl rfl rfl rfl ?_
  have e1 : readFloatV l at_ = (0, 0, 15) := by unfold readFloatV; rw [if_neg (by omega), if_neg (by omega), if_pos c33]
  exact ⟨by rw [e1]; rfl, ⟨_, rfl⟩⟩
 simp only [NN, reduceCtorEq] at c33
 refine gc_skip (hK14 _ _ (gc_seq fun K17 hK17 => gc_region (Zp rfl (Zp rfl (Zi rfl (by omega) ?_)))))
 refine Zp rfl (Zp rfl (Zp rfl (gl_nil (hK17 _ _ (gc_ret (gk_ret3 rfl rfl rfl rfl ?_))))))
 have e1 : readFloatV l at_ = (vLE l at_.toNat 8, at_ + 8, 0) := by unfold readFloatV; rw [if_neg (by omega), if_neg (by omega), if_neg (by simp [c33])]
 exact ⟨by rw [e1], ⟨_, rfl⟩⟩
end Go.Proofs.YtnomlloaahoceaaGreatDoor

/- Contracts of what reads frames. No condition. -/
namespace Go.Proofs.YtnomlloaahoceaaGreatDoor
open Go.RowKit
set_option linter.unusedVariables false
set_option linter.unusedSimpArgs false
end Go.Proofs.YtnomlloaahoceaaGreatDoor

/- Texts with their length ahead, and the walk of WireTexts. No condition. -/
namespace Go.Proofs.YtnomlloaahoceaaGreatDoor
open Go.RowKit
set_option linter.unusedVariables false
set_option linter.unusedSimpArgs false
theorem part_calls (A : Option Addr) (c : Nat) (l : List UInt8) (lo n : Nat) (w : World) {ok : Nat → Prop} (h1 : RdE w ok uB A l) (hl : lo + n ≤ l.length) (hc : l.length ≤ c) (hb : n ≤ 140737488355328) (hb2 : l.length ≤ 4611686018427387904) :
 Calls Tryz.prog 86 ⟨[.slice A l.length c, .int .i64 lo, .int .i64 ((lo : Int) + n)]⟩ w fun e w' => ∃ A' c', e = .returned (.slice A' n c') ∧
  Owns w' w.heap.size A' c' 5 1 n (((l.drop lo).take n).map uB) ∧ Below w.heap.size w w' := by
 refine gc_enter (N := 14) Tryz.func86 rfl rfl rfl [(0, _), (1, _), (2, _)] rfl ?_
 have hS := St.start w
 refine gc_seq fun K1 hK1 => gc_region (Zp rfl (gl_nil (hK1 _ _ (gc_seq fun K2 hK2 => gc_region (Zp rfl (gl_nil (hK2 _ _ (gc_seq fun K3 hK3 => gc_region (Zp rfl (Zp rfl (Zp rfl (Zp rfl (gl_op rfl rfl rfl (op_slice_lh hT el5 rfl rfl rfl rfl rfl (by omega) (by omega) (by omega)) ?_)))))))))))))
 refine gl_spell 12 (v := .slice (if c = lo then A else A.map (·.add (lo * 1))) n (c - lo)) rfl ?_ ?_
 ·have e1 : ((lo : Int)).toNat = lo := by omega
  have e2 : ((lo : Int) + (n : Int)).toNat - lo = n := by omega
  rw [e1, e2]
 refine gl_append0 hT hS el5 (((RdE.old h1 hS).drop (k := lo) (cap := c) (by omega) hc).pre (k := n) (by rw [List.length_drop]; omega)) (allOne_uB _) rfl rfl rfl rfl rfl rfl rfl (by first | omega | (simp; omega)) (by first | omega | (simp; omega)) fun A13 c13 w13 hS => ?_
 refine Zp rfl (gl_nil (hK3 _ _ (gc_ret (gk_ret1 rfl rfl ?_))))
 obtain ⟨h2, h3⟩ := hS.out (i := 0) rfl
 exact ⟨_, _, rfl, h2, h3⟩
theorem partI_calls (A : Option Addr) (c : Nat) (l : List UInt8) (lo n : Int) (w : World) {ok : Nat → Prop} (h1 : RdE w ok uB A l) (hlo : 0 ≤ lo) (hn : 0 ≤ n) (hl : lo + n ≤ l.length) (hc : l.length ≤ c) (hb : n ≤ 140737488355328) (hb2 : l.length ≤ 4611686018427387904) :
 Calls Tryz.prog 86 ⟨[.slice A l.length c, .int .i64 lo, .int .i64 (lo + n)]⟩ w fun e w' => ∃ A' c', e = .returned (.slice A' n.toNat c') ∧
  Owns w' w.heap.size A' c' 5 1 n.toNat (((l.drop lo.toNat).take n.toNat).map uB) ∧ Below w.heap.size w w' := by
 obtain ⟨lo, rfl⟩ := Int.eq_ofNat_of_zero_le hlo
 obtain ⟨n, rfl⟩ := Int.eq_ofNat_of_zero_le hn
 exact part_calls A c l lo n w h1 (by omega) hc (by omega) hb2
theorem rReadText_calls (A : Option Addr) (c : Nat) (l : List UInt8) (at_ most : Int) (w : World) {ok : Nat → Prop} (h1 : RdE w ok uB A l) (hb : l.length ≤ 140737488000000) (hc : l.length ≤ c) :
 Calls Tryz.prog 62 ⟨[.slice A l.length c, .int .i64 at_, .int .i64 most]⟩ w fun e w' => e = .returned (.tuple #[.string (readTextV l at_ most).1, .int .i64 (readTextV l at_ most).2.1, .int .i64 (readTextV l at_ most).2.2]) ∧ Below w.heap.size w w' := by
 refine gc_enter (N := 59) Tryz.func62 rfl rfl rfl [(0, _), (1, _), (2, _)] rfl ?_
 have hS := St.start w
 have hok := readUV_ok (l := l) (at_ := at_)
 refine gc_seq fun K1 hK1 => gc_region (Zp rfl (Zp rfl (Zp rfl (gl_nil (hK1 _ _ (gc_seq fun K2 hK2 => gc_seq fun K3 hK3 => gc_region (Zp rfl (Zp rfl (gl_callf rfl rfl rfl rfl Tryz.func80 rfl rfl rfl (outside_calls A c l at_ _) ?_)))))))))
 rintro _ _ ⟨rfl, n17, rfl⟩
 refine ⟨_, rfl, ?_⟩
 have hS := hS.dr n17
 refine Zp rfl (gl_split (t := 18) rfl (fun c18 => ?_) (fun c18 => ?_))
 ·simp only [NN, reduceCtorEq] at c18
  refine Zs rfl (Zs rfl (Zp rfl (gl_nil (hK3 _ _ (gc_cond_t rfl (gc_seq fun K4 hK4 => gc_region (Zp rfl (Zp rfl (Zp rfl (gl_nil (hK4 _ _ (gc_ret ?_))))))))))))
  simp only [XR]
  refine gk_ret3 rfl rfl rfl rfl ?_
  exact ⟨by unfold readTextV; rw [if_pos (by omega)], hS.below⟩
 simp only [NN, reduceCtorEq] at c18
 refine Zu rfl (Zp rfl (Zu rfl (Zp rfl (Zp rfl (gl_nil (hK3 _ _ (gc_cond rfl rfl (fun c21 => ?_) (fun c21 => ?_))))))))
 ·simp only [NN, reduceCtorEq] at c21
  refine gc_seq fun K5 hK5 => gc_region (Zp rfl (Zp rfl (Zp rfl (gl_nil (hK5 _ _ (gc_ret ?_))))))
  simp only [XR]
  refine gk_ret3 rfl rfl rfl rfl ?_
  exact ⟨by unfold readTextV; rw [if_pos (by omega)], hS.below⟩
 simp only [NN, reduceCtorEq] at c21
 refine gc_skip (hK2 _ _ (gc_seq fun K6 hK6 => gc_region (Zp rfl (Zp rfl (gl_callf rfl rfl rfl rfl Tryz.func55 rfl rfl rfl (rReadUint_calls A c l at_ _ (h1.old hS) (by omega)) ?_)))))
 rintro _ _ ⟨rfl, n25, rfl⟩
 refine ⟨_, rfl, ?_⟩
 have hS := hS.dr n25
 refine Zp rfl (Zp rfl (Zp rfl (Zp rfl (Zp rfl (Zp rfl (Zp rfl (gl_nil (hK6 _ _ (gc_seq fun K7 hK7 => gc_seq fun K8 hK8 => gc_region (Zp rfl (Zp rfl (gl_nil (hK8 _ _ (gc_cond rfl rfl (fun c30 => ?_) (fun c30 => ?_)))))))))))))))
 ·simp only [NN, reduceCtorEq] at c30
  refine gc_seq fun K9 hK9 => gc_region (Zp rfl (Zp rfl (Zp rfl (Zp rfl (gl_nil (hK9 _ _ (gc_ret ?_)))))))
  simp only [XR]
  refine gk_ret3 rfl rfl rfl rfl ?_
  have e1 : readTextV l at_ most = (⟨#[]⟩, 0, (readUV l at_).2.2) := by unfold readTextV; rw [if_neg (by omega)]; simp only; rw [if_pos (by simpa using c30)]
  rw [e1]
  exact ⟨rfl, hS.below⟩
 simp only [NN, reduceCtorEq] at c30
 refine gc_skip (hK7 _ _ (gc_seq fun K10 hK10 => gc_seq fun K11 hK11 => gc_region ?_))
 have hok := hok (by simpa using c30)
 have hne : ¬ (readUV l at_).2.2 ≠ 0 := by simpa using c30
 refine Zp rfl (Zp rfl (Zp rfl (gl_nil (hK11 _ _ (gc_cond rfl rfl (fun c34 => ?_) (fun c34 => ?_))))))
 ·simp only [NN, reduceCtorEq] at c34
  refine gc_seq fun K12 hK12 => gc_region (Zp rfl (Zp rfl (Zp rfl (gl_nil (hK12 _ _ (gc_ret ?_))))))
  simp only [XR]
  refine gk_ret3 rfl rfl rfl rfl ?_
  have e1 : readTextV l at_ most = (⟨#[]⟩, 0, 13) := by unfold readTextV; rw [if_neg (by omega)]; simp only; rw [if_neg hne, if_pos c34]
  rw [e1]
  exact ⟨rfl, hS.below⟩
 simp only [NN, reduceCtorEq] at c34
 refine gc_skip (hK10 _ _ (gc_seq fun K13 hK13 => gc_seq fun K14 hK14 => gc_region (Zp rfl (Zp rfl (Zp rfl (Zi rfl (by omega) ?_))))))
 refine Zp rfl (Zp rfl (gl_nil (hK14 _ _ (gc_cond rfl rfl (fun c40 => ?_) (fun c40 => ?_)))))
 ·simp only [NN, reduceCtorEq] at c40
  refine gc_seq fun K15 hK15 => gc_region (Zp rfl (Zp rfl (Zp rfl (gl_nil (hK15 _ _ (gc_ret ?_))))))
  simp only [XR]
  refine gk_ret3 rfl rfl rfl rfl ?_
  have e1 : readTextV l at_ most = (⟨#[]⟩, 0, 10) := by unfold readTextV; rw [if_neg (by omega)]; simp only; rw [if_neg hne, if_neg (by omega), if_pos c40]
  rw [e1]
  exact ⟨rfl, hS.below⟩
 simp only [NN, reduceCtorEq] at c40
 refine gc_skip (hK13 _ _ (gc_seq fun K16 hK16 => gc_region (Zp rfl (Zp rfl (Zp rfl (Zp rfl (Zi rfl (by omega) ?_)))))))
 refine gl_callf rfl rfl rfl rfl Tryz.func86 rfl rfl rfl (partI_calls A c l (readUV l at_).2.1 (readUV l at_).1 _ (h1.old hS) (by omega) (by omega) (by omega) hc (by omega) (by omega)) ?_
 rintro _ w46 ⟨A46, c46, rfl, hr46, hb46⟩
 refine ⟨_, rfl, ?_⟩
 have hS := hS.addRow hb46 hr46
 refine gl_op rfl rfl rfl (op_b2s hT (hS.rdE (i := 0) rfl) rfl rfl rfl rfl rfl (by simp; omega)) ?_
 refine Zp rfl (gl_nil (hK16 _ _ (gc_seq fun K17 hK17 => gc_region (Zp rfl (gl_callf rfl rfl rfl rfl Tryz.func87 rfl rfl rfl (rRunes_calls _ (by rw [strB_size]; simp; omega) _) ?_)))))
 rintro _ w50 ⟨rfl, hb50⟩
 refine ⟨_, rfl, ?_⟩
 have hS := hS.grown hb50
 refine Zp rfl (Zp rfl (Zp rfl (Zp rfl (Zp rfl (gl_nil (hK17 _ _ (gc_seq fun K18 hK18 => gc_seq fun K19 hK19 => gc_region (Zp rfl (Zp rfl (gl_nil (hK19 _ _ (gc_cond rfl rfl (fun c54 => ?_) (fun c54 => ?_)))))))))))))
 ·simp only [NN, reduceCtorEq] at c54
  refine gc_seq fun K20 hK20 => gc_region (Zp rfl (Zp rfl (Zp rfl (gl_nil (hK20 _ _ (gc_ret ?_))))))
  simp only [XR]
  refine gk_ret3 rfl rfl rfl rfl ?_
  have e1 : readTextV l at_ most = (⟨#[]⟩, 0, 14) := by unfold readTextV; rw [if_neg (by omega)]; simp only; rw [if_neg hne, if_neg (by omega), if_neg (by omega), if_pos (by simpa [textB] using c54)]
  rw [e1]
  exact ⟨rfl, hS.below⟩
 simp only [NN, reduceCtorEq] at c54
 refine gc_skip (hK18 _ _ (gc_seq fun K21 hK21 => gc_region (Zp rfl (Zp rfl (Zp rfl (Zi rfl (by omega) ?_))))))
 refine Zp rfl (Zp rfl (Zp rfl (gl_nil (hK21 _ _ (gc_ret (gk_ret3 rfl rfl rfl rfl ?_))))))
 have e1 : readTextV l at_ most = (textB l (readUV l at_).2.1.toNat (readUV l at_).1.toNat, (readUV l at_).2.1 + (readUV l at_).1, 0) := by unfold readTextV; rw [if_neg (by omega)]; simp only; rw [if_neg hne, if_neg (by omega), if_neg (by omega), if_neg (by simpa [textB] using c54)]
 rw [e1]
 exact ⟨rfl, hS.below⟩
end Go.Proofs.YtnomlloaahoceaaGreatDoor
