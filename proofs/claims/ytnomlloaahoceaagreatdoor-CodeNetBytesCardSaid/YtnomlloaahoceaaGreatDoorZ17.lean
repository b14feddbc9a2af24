/- Contracts of functions that CodeNetBytes reaches, and words to say them. No condition. -/
import Derived.Test.YtnomlloaahoceaaGreatDoorZ15
import Derived.Test.YtnomlloaahoceaaGreatDoorZ11
import Derived.Test.YtnomlloaahoceaaGreatDoorZ04
import Derived.Test.YtnomlloaahoceaaGreatDoorZ03
import Derived.Test.YtnomlloaahoceaaGreatDoorZ05
/- Whole numbers in words of 32 bits: laws; trim, cmp, minus of the document's numbers. No condition. -/
namespace Go.Proofs.YtnomlloaahoceaaGreatDoor
open Go.RowKit
set_option linter.unusedVariables false
set_option linter.unusedSimpArgs false
def nv : List Nat → Nat
 | [] => 0
 | a :: r => a + 4294967296 * nv r
def wOk (l : List Nat) : Prop := ∀ x ∈ l, x < 4294967296
def cano (l : List Nat) : Prop := l = [] ∨ 4294967296 ^ (l.length - 1) ≤ nv l
theorem nv_app : ∀ (a b : List Nat), nv (a ++ b) = nv a + 4294967296 ^ a.length * nv b
 | [], b => by simp [nv]
 | x :: a, b => by
  have h := nv_app a b
  show x + 4294967296 * nv (a ++ b) = x + 4294967296 * nv a + 4294967296 ^ (a.length + 1) * nv b
  rw [h, Nat.mul_add, Nat.pow_succ, Nat.add_assoc, ← Nat.mul_assoc, Nat.mul_comm (4294967296 ^ a.length) 4294967296]
theorem nv_lt : ∀ {l : List Nat}, wOk l → nv l < 4294967296 ^ l.length
 | [], _ => by simp [nv]
 | x :: r, h => by
  have h1 := nv_lt (l := r) fun y hy => h y (.tail _ hy)
  have h2 := h x (.head _)
  have h3 : 4294967296 * (nv r + 1) ≤ 4294967296 * 4294967296 ^ r.length := Nat.mul_le_mul_left _ h1
  show x + 4294967296 * nv r < 4294967296 ^ (r.length + 1)
  rw [Nat.pow_succ, Nat.mul_comm _ 4294967296]
  omega
theorem nv_zeros (n : Nat) : nv (List.replicate n 0) = 0 := by
 induction n with
 | zero => rfl
 | succ n ih => rw [List.replicate_succ]; show 0 + 4294967296 * nv (List.replicate n 0) = 0; rw [ih]
theorem nv_take {l : List Nat} {i u : Nat} (h : l[i]? = some u) : nv (l.take (i + 1)) = nv (l.take i) + 4294967296 ^ i * u := by
 have hi := (List.getElem?_eq_some_iff.1 h).1
 rw [List.take_add_one, h]
 show nv (l.take i ++ [u]) = _
 rw [nv_app, List.length_take, Nat.min_eq_left (by omega)]
 show _ + 4294967296 ^ i * (u + 4294967296 * 0) = _
 rw [Nat.mul_zero, Nat.add_zero]
theorem wOk_take {l : List Nat} (h : wOk l) (n : Nat) : wOk (l.take n) := fun x hx => h x (List.mem_of_mem_take hx)
theorem cano_lt {a b : List Nat} (ha : wOk a) (hb : cano b) (h : a.length < b.length) : nv a < nv b := by
 rcases hb with rfl | hb
 ·simp at h
 exact Nat.lt_of_lt_of_le (nv_lt ha) (Nat.le_trans (Nat.pow_le_pow_right (by decide) (by omega)) hb)
theorem trimW_calls (A : Option Addr) (c n0 : Nat) (l : List Nat) (w : World) {ok : Nat → Prop} (h1 : RdE w ok w4 A l) (hn : n0 = l.length) (hc : l.length ≤ c) (hb : l.length ≤ 4611686018427387904) :
 Calls Tryz.prog 114 ⟨[.slice A n0 c]⟩ w fun e w' => ∃ n : Nat, e = .returned (.slice A n c) ∧ n ≤ l.length ∧ nv (l.take n) = nv l ∧ cano (l.take n) ∧ Eqv w w' := by
 subst hn
 refine gc_enter (N := 21) Tryz.func114 rfl rfl rfl [(0, _)] rfl ?_
 refine gc_seq fun K1 hK1 => gc_region (Zp rfl (gl_nil (hK1 _ _ (gc_seq fun K2 hK2 => gc_region (Zp rfl (Zp rfl (Zp rfl (gl_nil (hK2 _ _ (gc_seq fun K3 hK3 => gc_block (gc_loop (fun k x w' => ∃ n : Nat, Fr 21 x [(0, .slice A l.length c), (3, .int .i64 (n : Nat))] ∧ n ≤ l.length ∧ k = n + 1 ∧ nv (l.take n) = nv l ∧ Eqv w w') (l.length + 1) ?_ ?_ ?_)))))))))))
 ·intro x hx; exact ⟨l.length, hx.sub ⟨rfl, rfl, trivial⟩, by omega, by omega, by rw [List.take_length], Eqv.refl _⟩
 ·rintro x w ⟨n, _, h1, h2, _⟩; omega
 rintro k x _ ⟨n, hF, hn, hk, hv, q, rfl⟩
 refine gc_of hF ?_
 refine gc_seq fun K4 hK4 => gc_seq fun K5 hK5 => gc_region (Zp rfl (Zp rfl (Zp rfl (gl_split (t := 8) rfl (fun c8 => ?_) (fun c8 => ?_)))))
 ·simp only [NN, reduceCtorEq] at c8
  refine Zu rfl (Zp rfl (Zu rfl (Zp rfl (Zu rfl (Zi rfl (by omega) ?_)))))
  refine Zu rfl ?_
  obtain ⟨u, hu⟩ : ∃ u, l[n - 1]? = some u := ⟨_, List.getElem?_eq_getElem (by omega)⟩
  obtain ⟨ad, hA, hcl⟩ := (h1.eqv ⟨q, rfl⟩).at 0 (i := (n : Int) - 1) (by omega) (by omega)
  have hug : l.getD ((n : Int) - 1).toNat 0 = u := by rw [show ((n : Int) - 1).toNat = n - 1 by omega, List.getD_eq_getElem?_getD, hu]; rfl
  rw [hug] at hcl
  have htk := nv_take hu
  rw [show n - 1 + 1 = n by omega] at htk
  refine gl_op rfl rfl rfl (op_indexAddr hT rfl rfl el144.cellsOf.1 el144.cellsOf.2 rfl rfl (by omega) (by omega) hA) ?_
  refine Zu rfl (gl_op rfl rfl rfl (op_load hT rfl rfl rfl rfl hcl) ?_)
  refine Zu rfl (Zp rfl (Zp rfl (gl_nil (hK5 _ _ (gc_cond rfl rfl (fun c15 => ?_) (fun c15 => ?_))))))
  ·simp only [NN, reduceCtorEq] at c15
   refine gc_skip (hK4 _ _ (gc_block (gc_region (Zp rfl (Zi rfl (by omega) ?_)))))
   refine Zp rfl (gl_nil ?_)
   intro x hx
   have hu0 : u = 0 := by omega
   rw [hu0, Nat.mul_zero, Nat.add_zero] at htk
   exact ⟨n - 1, hx.sub ⟨rfl, by rw [show (((n - 1 : Nat) : Nat) : Int) = (n : Int) - 1 by omega]; rfl, trivial⟩, by omega, by omega, by rw [← htk]; exact hv, ⟨q, rfl⟩⟩
  simp only [NN, reduceCtorEq] at c15
  refine gc_exit ?_
  refine hK3 _ _ (gc_seq fun K6 hK6 => gc_region (Zp rfl (Zp rfl (gl_op rfl rfl rfl (op_slice_h hT el144 rfl rfl rfl rfl (by first | omega | (simp; omega)) (by first | omega | (simp; omega))) ?_))))
  refine Zp rfl (gl_nil (hK6 _ _ (gc_ret (gk_ret1 rfl rfl ?_))))
  refine ⟨n, rfl, hn, hv, ?_, ⟨q, rfl⟩⟩
  refine .inr ?_
  have hu0 : 1 ≤ u := by omega
  rw [htk, List.length_take, Nat.min_eq_left hn]
  have := Nat.mul_le_mul_left (4294967296 ^ (n - 1)) hu0
  omega
 simp only [NN, reduceCtorEq] at c8
 refine Zs rfl (Zs rfl (Zs rfl (Zs rfl (Zs rfl (Zs rfl (Zp rfl (gl_nil (hK5 _ _ (gc_cond_f rfl (gc_exit ?_))))))))))
 refine hK3 _ _ (gc_seq fun K7 hK7 => gc_region (Zp rfl (Zp rfl (gl_op rfl rfl rfl (op_slice_h hT el144 rfl rfl rfl rfl (by first | omega | (simp; omega)) (by first | omega | (simp; omega))) ?_))))
 refine Zp rfl (gl_nil (hK7 _ _ (gc_ret (gk_ret1 rfl rfl ?_))))
 refine ⟨n, rfl, hn, hv, ?_, ⟨q, rfl⟩⟩
 exact .inl (by rw [show n = 0 by omega]; rfl)
theorem nv_split {l : List Nat} {i u : Nat} (h : l[i]? = some u) : nv l = nv (l.take i) + 4294967296 ^ i * (u + 4294967296 * nv (l.drop (i + 1))) := by
 have hi := (List.getElem?_eq_some_iff.1 h).1
 have e : l = l.take i ++ (u :: l.drop (i + 1)) := by
  rw [List.getElem?_eq_getElem hi] at h
  rw [← Option.some.inj h, ← List.drop_eq_getElem_cons hi, List.take_append_drop]
 have h2 := nv_app (l.take i) (u :: l.drop (i + 1))
 rw [← e, List.length_take, Nat.min_eq_left (by omega)] at h2
 exact h2
theorem nv_cmp {a b : List Nat} {i u v : Nat} (ha : wOk a) (hua : a[i]? = some u) (hvb : b[i]? = some v) (hd : a.drop (i + 1) = b.drop (i + 1)) (h : u < v) : nv a < nv b := by
 have h1 := nv_split hua
 have h2 := nv_split hvb
 have hi := (List.getElem?_eq_some_iff.1 hua).1
 have h3 := nv_lt (wOk_take ha i)
 rw [List.length_take, Nat.min_eq_left (by omega)] at h3
 rw [h1, h2, hd]
 have h4 : 4294967296 ^ i * (u + 4294967296 * nv (b.drop (i + 1)) + 1) ≤ 4294967296 ^ i * (v + 4294967296 * nv (b.drop (i + 1))) := Nat.mul_le_mul_left _ (by omega)
 rw [Nat.mul_add _ _ 1, Nat.mul_one] at h4
 omega
theorem ncmp_calls (A B : Option Addr) (ca cb na nb : Nat) (la lb : List Nat) (w : World) {ok ok2 : Nat → Prop} (hA : RdE w ok w4 A la) (hB : RdE w ok2 w4 B lb) (hna : na = la.length) (hnb : nb = lb.length) (ha : wOk la) (hb : wOk lb) (ka : cano la) (kb : cano lb) (hl : la.length ≤ 2097152 ∧ lb.length ≤ 2097152) :
 Calls Tryz.prog 120 ⟨[.slice A na ca, .slice B nb cb]⟩ w fun e w' => ∃ r : Int, e = .returned (.int .i64 r) ∧ (0 ≤ r ↔ nv lb ≤ nv la) ∧ Below w.heap.size w w' := by
 subst hna
 subst hnb
 refine gc_enter (N := 41) Tryz.func120 rfl rfl rfl [(0, _), (1, _)] rfl ?_
 have hS := St.start w
 refine gc_seq fun K1 hK1 => gc_region (Zp rfl (gl_nil (hK1 _ _ (gc_seq fun K2 hK2 => gc_seq fun K3 hK3 => gc_region (Zp rfl (Zp rfl (Zp rfl (Zp rfl (Zp rfl (gl_nil (hK3 _ _ (gc_cond rfl rfl (fun c10 => ?_) (fun c10 => ?_)))))))))))))
 ·simp only [NN, reduceCtorEq] at c10
  refine gc_seq fun K4 hK4 => gc_seq fun K5 hK5 => gc_region (Zp rfl (Zp rfl (Zp rfl (Zp rfl (Zp rfl (gl_nil (hK5 _ _ (gc_cond rfl rfl (fun c15 => ?_) (fun c15 => ?_)))))))))
  ·simp only [NN, reduceCtorEq] at c15
   refine gc_seq fun K6 hK6 => gc_region (Zp rfl (gl_nil (hK6 _ _ (gc_ret ?_))))
   simp only [XR]
   refine gk_ret1 rfl rfl ?_
   exact ⟨-1, rfl, ⟨fun h => absurd h (by decide), fun h => absurd (cano_lt ha kb (by omega)) (by omega)⟩, hS.below⟩
  simp only [NN, reduceCtorEq] at c15
  refine gc_skip (hK4 _ _ (gc_seq fun K7 hK7 => gc_region (Zp rfl (gl_nil (hK7 _ _ (gc_ret ?_))))))
  simp only [XR]
  refine gk_ret1 rfl rfl ?_
  exact ⟨1, rfl, ⟨fun _ => Nat.le_of_lt (cano_lt hb ka (by omega)), fun _ => by decide⟩, hS.below⟩
 simp only [NN, reduceCtorEq] at c10
 refine gc_skip (hK2 _ _ (gc_seq fun K8 hK8 => gc_seq fun K9 hK9 => gc_region (Zp rfl (Zp rfl (Zi rfl (by omega) ?_)))))
 refine Zp rfl (gl_nil (hK9 _ _ (gc_block ?_)))
 have hll : la.length = lb.length := by omega
 refine gc_loop (fun k x w' => ∃ m : Nat, Fr 41 x [(0, .slice A la.length ca), (1, .slice B lb.length cb), (5, .int .i64 ((m : Int) - 1))] ∧ m ≤ la.length ∧ k = m + 1 ∧ la.drop m = lb.drop m ∧ St w.heap.size w w' []) (la.length + 1) ?_ ?_ ?_
 ·intro x hx; exact ⟨la.length, hx.sub ⟨rfl, rfl, rfl, trivial⟩, by omega, by omega, by rw [List.drop_length, hll, List.drop_length], hS⟩
 ·rintro x w ⟨m, _, h1, h2, _⟩; omega
 clear hS
 rintro k x w1 ⟨m, hF, hm, hk, hd, hS⟩
 refine gc_of hF ?_
 clear hF
 refine gc_seq fun K10 hK10 => gc_seq fun K11 hK11 => gc_region (Zp rfl (Zp rfl (gl_nil (hK11 _ _ (gc_cond rfl rfl (fun c20 => ?_) (fun c20 => ?_))))))
 ·simp only [NN, reduceCtorEq] at c20
  refine gc_skip (hK10 _ _ (gc_seq fun K12 hK12 => gc_block (gc_seq fun K13 hK13 => gc_seq fun K14 hK14 => gc_anyS hS (by kernel_rfl) rfl fun nq8 hK => ?_)))
  have hS := hS.dr nq8
  have hm1 : 1 ≤ m := by omega
  obtain ⟨u, hu⟩ : ∃ u, la[m - 1]? = some u := ⟨_, List.getElem?_eq_getElem (by omega)⟩
  obtain ⟨v, hv⟩ : ∃ v, lb[m - 1]? = some v := ⟨_, List.getElem?_eq_getElem (by omega)⟩
  obtain ⟨ad, hAd, hca⟩ := hA.at 0 (i := (m : Int) - 1) (by omega) (by omega)
  obtain ⟨bd, hBd, hcb⟩ := hB.at 0 (i := (m : Int) - 1) (by omega) (by omega)
  have hug : la.getD ((m : Int) - 1).toNat 0 = u := by rw [show ((m : Int) - 1).toNat = m - 1 by omega, List.getD_eq_getElem?_getD, hu]; rfl
  have hvg : lb.getD ((m : Int) - 1).toNat 0 = v := by rw [show ((m : Int) - 1).toNat = m - 1 by omega, List.getD_eq_getElem?_getD, hv]; rfl
  rw [hug] at hca
  rw [hvg] at hcb
  have hd1 : la.drop (m - 1 + 1) = lb.drop (m - 1 + 1) := by rw [show m - 1 + 1 = m by omega]; exact hd
  refine Yp 0 rfl (by kernel_rfl) (fun _ _ _ _ h => h) hK ?_
  refine Yp 1 rfl (by kernel_rfl) (fun _ _ _ _ h => h) hK ?_
  refine ga_take 2 rfl rfl rfl rfl (by kernel_rfl) (fun _ _ _ _ h => h) hK (fun w1 hS => op_indexAddr hT rfl rfl el144.cellsOf.1 el144.cellsOf.2 rfl rfl (by omega) (by omega) hAd) ?_
  refine ga_take 3 rfl rfl rfl rfl (by kernel_rfl) (fun _ _ _ _ h => h) hK (fun w1 hS => op_load hT rfl rfl rfl rfl (cellOf hS.below hca)) ?_
  refine Yp 4 rfl (by kernel_rfl) (fun _ _ _ _ h => h) hK ?_
  refine Yp 5 rfl (by kernel_rfl) (fun _ _ _ _ h => h) hK ?_
  refine ga_take 6 rfl rfl rfl rfl (by kernel_rfl) (fun _ _ _ _ h => h) hK (fun w1 hS => op_indexAddr hT rfl rfl el144.cellsOf.1 el144.cellsOf.2 rfl rfl (by omega) (by omega) hBd) ?_
  refine ga_take 7 rfl rfl rfl rfl (by kernel_rfl) (fun _ _ _ _ h => h) hK (fun w1 hS => op_load hT rfl rfl rfl rfl (cellOf hS.below hcb)) ?_
  refine Yp 8 rfl (by kernel_rfl) (fun _ _ _ _ h => h) hK ?_
  refine ga_done (by kernel_rfl) ?_
  refine hK14 _ _ (gc_cond rfl rfl (fun c31 => ?_) (fun c31 => ?_))
  ·simp only [NN, reduceCtorEq] at c31
   refine gc_seq fun K15 hK15 => gc_region (Zp rfl (gl_nil (hK15 _ _ (gc_ret ?_))))
   simp only [XR]
   refine gk_ret1 rfl rfl ?_
   exact ⟨-1, rfl, ⟨fun h => absurd h (by decide), fun h => absurd (nv_cmp ha hu hv hd1 (by omega)) (by omega)⟩, hS.below⟩
  simp only [NN, reduceCtorEq] at c31
  refine gc_skip (hK13 _ _ (gc_seq fun K16 hK16 => gc_anyS hS (by kernel_rfl) rfl fun nq10 hK => ?_))
  have hS := hS.dr nq10
  refine Yp 0 rfl (by kernel_rfl) (fun _ _ _ _ h => h) hK ?_
  refine Yp 1 rfl (by kernel_rfl) (fun _ _ _ _ h => h) hK ?_
  refine ga_take 2 rfl rfl rfl rfl (by kernel_rfl) (fun _ _ _ _ h => h) hK (fun w1 hS => op_indexAddr hT rfl rfl el144.cellsOf.1 el144.cellsOf.2 rfl rfl (by omega) (by omega) hAd) ?_
  refine ga_take 3 rfl rfl rfl rfl (by kernel_rfl) (fun _ _ _ _ h => h) hK (fun w1 hS => op_load hT rfl rfl rfl rfl (cellOf hS.below hca)) ?_
  refine Yp 4 rfl (by kernel_rfl) (fun _ _ _ _ h => h) hK ?_
  refine Yp 5 rfl (by kernel_rfl) (fun _ _ _ _ h => h) hK ?_
  refine ga_take 6 rfl rfl rfl rfl (by kernel_rfl) (fun _ _ _ _ h => h) hK (fun w1 hS => op_indexAddr hT rfl rfl el144.cellsOf.1 el144.cellsOf.2 rfl rfl (by omega) (by omega) hBd) ?_
  refine ga_take 7 rfl rfl rfl rfl (by kernel_rfl) (fun _ _ _ _ h => h) hK (fun w1 hS => op_load hT rfl rfl rfl rfl (cellOf hS.below hcb)) ?_
  refine Yp 8 rfl (by kernel_rfl) (fun _ _ _ _ h => h) hK ?_
  refine ga_done (by kernel_rfl) ?_
  refine hK16 _ _ (gc_cond rfl rfl (fun c40 => ?_) (fun c40 => ?_))
  ·simp only [NN, reduceCtorEq] at c40
   refine gc_seq fun K17 hK17 => gc_region (Zp rfl (gl_nil (hK17 _ _ (gc_ret ?_))))
   simp only [XR]
   refine gk_ret1 rfl rfl ?_
   exact ⟨1, rfl, ⟨fun _ => Nat.le_of_lt (nv_cmp hb hv hu hd1.symm (by omega)), fun _ => by decide⟩, hS.below⟩
  simp only [NN, reduceCtorEq] at c40
  refine gc_skip (hK12 _ _ (gc_region (Zp rfl (Zi rfl (by omega) ?_))))
  refine Zp rfl (gl_nil ?_)
  intro x hx
  refine ⟨m - 1, hx.sub ⟨rfl, rfl, by rw [show (((m - 1 : Nat) : Int) - 1) = (m : Int) - 1 - 1 by omega]; rfl, trivial⟩, by omega, by omega, ?_, hS⟩
  have huv : u = v := by omega
  subst huv
  have e1 := List.drop_eq_getElem_cons (l := la) (i := m - 1) (by omega)
  have e2 := List.drop_eq_getElem_cons (l := lb) (i := m - 1) (by omega)
  rw [List.getElem?_eq_getElem (by omega)] at hu hv
  rw [e1, e2, Option.some.inj hu, Option.some.inj hv, hd1]
 simp only [NN, reduceCtorEq] at c20
 refine gc_exit ?_
 refine hK8 _ _ (gc_seq fun K18 hK18 => gc_region (Zp rfl (gl_nil (hK18 _ _ (gc_ret (gk_ret1 rfl rfl ?_))))))
 refine ⟨0, rfl, ⟨fun _ => ?_, fun _ => Int.le_refl 0⟩, hS.below⟩
 have hm0 : m = 0 := by omega
 rw [hm0, List.drop_zero, List.drop_zero] at hd
 rw [hd]
 exact Nat.le_refl _
theorem u64w {x : Int} (h : 0 ≤ x ∧ x < 18446744073709551616) : IntKind.u64.wrap x = x := by rw [IntKind.wrap_u64]; omega
theorem made_w4 (n : Nat) : (madeCells (Value.int .u32 0).cells (n * 1)).toList = (List.replicate n 0).map w4 := by
 rw [List.map_replicate]
 exact made_oneY (w4 0) n
theorem set_mid {pre : List Nat} {c u : Nat} {r : List Nat} {i : Nat} (h : pre.length = i) : (pre ++ c :: r).set i u = pre ++ u :: r := by
 subst h
 rw [List.set_append_right _ _ (Nat.le_refl _), Nat.sub_self]
 rfl
set_option maxRecDepth 100000 in
theorem nminus_calls (A B : Option Addr) (ca cb na nb : Nat) (la lb : List Nat) (w : World) {ok ok2 : Nat → Prop} (hA : RdE w ok w4 A la) (hB : RdE w ok2 w4 B lb) (hna : na = la.length) (hnb : nb = lb.length) (ha : wOk la) (hb : wOk lb) (hle : nv lb ≤ nv la) (hll : lb.length ≤ la.length) (hl : la.length ≤ 2097152) :
 Calls Tryz.prog 121 ⟨[.slice A na ca, .slice B nb cb]⟩ w fun e w' => ∃ (D : Option Addr) (n c : Nat), e = .returned (.slice D n c) ∧ (n = 0 ↔ nv la = nv lb) ∧ Below w.heap.size w w' := by
 subst hna
 subst hnb
 refine gc_enter (N := 50) Tryz.func121 rfl rfl rfl [(0, _), (1, _)] rfl ?_
 have hS := St.start w
 refine gc_seq fun K1 hK1 => gc_region (Zp rfl (gl_nil (hK1 _ _ (gc_seq fun K2 hK2 => gc_region (Zp rfl (Zp rfl (gl_make hT hS el144 rfl rfl rfl rfl rfl rfl rfl (by omega) (by omega) fun g12 w12 hS => ?_)))))))
 refine Zp rfl (gl_nil (hK2 _ _ (gc_seq fun K3 hK3 => gc_region (Zp rfl (gl_nil (hK3 _ _ (gc_seq fun K4 hK4 => gc_seq fun K5 hK5 => gc_region (Zp rfl (gl_nil (hK5 _ _ (gc_block ?_)))))))))))
 rw [made_w4] at hS
 refine gc_loop (fun k x w' => ∃ (i : Nat) (O : List Nat) (cy : Nat) (D : Option Addr) (cD : Nat), Fr 50 x [(0, .slice A la.length ca), (1, .slice B lb.length cb), (5, .slice D la.length cD), (6, .int .u64 (cy : Nat)), (7, .int .i64 (i : Nat))] ∧ i ≤ la.length ∧ k = la.length + 1 - i ∧ O.length = i ∧ wOk O ∧ cy ≤ 1 ∧
  nv (lb.take i) + nv O = nv (la.take i) + cy * 4294967296 ^ i ∧ St w.heap.size w w' [.row D cD 144 1 la.length ((O ++ List.replicate (la.length - i) 0).map w4)]) (la.length + 1) ?_ ?_ ?_
 ·intro x hx; exact ⟨0, [], 0, _, _, hx.sub ⟨rfl, rfl, rfl, rfl, rfl, trivial⟩, by omega, by omega, rfl, (fun x hx => by cases hx), by decide, rfl, hS⟩
 ·rintro x w ⟨i, _, _, _, _, _, h1, h2, _⟩; omega
 clear hS
 rintro k x w1 ⟨i, O, cy, D, cD, hF, hi, hk, hO, hOk, hcy, hval, hS⟩
 refine gc_of hF ?_
 clear hF
 refine gc_seq fun K6 hK6 => gc_seq fun K7 hK7 => gc_region (Zp rfl (Zp rfl (Zp rfl (Zp rfl (gl_nil (hK7 _ _ (gc_cond rfl rfl (fun c16 => ?_) (fun c16 => ?_))))))))
 ·simp only [NN, reduceCtorEq] at c16
  have hil : i < la.length := by omega
  obtain ⟨u, hu⟩ : ∃ u, la[i]? = some u := ⟨_, List.getElem?_eq_getElem hil⟩
  have hub := ha u (List.mem_of_getElem? hu)
  refine gc_skip (hK6 _ _ (gc_seq fun K8 hK8 => gc_block (gc_seq fun K9 hK9 => gc_region (Zp rfl (Zp rfl (gl_nil (hK9 _ _ (gc_cut (fun x w' => ∃ xb : Nat, Fr 50 x [(0, .slice A la.length ca), (1, .slice B lb.length cb), (5, .slice D la.length cD), (7, .int .i64 (i : Nat)), (8, .int .u64 (xb : Nat))] ∧ xb ≤ 4294967296 ∧ nv (lb.take (i + 1)) + nv O + 4294967296 ^ i * cy = nv (lb.take i) + nv O + 4294967296 ^ i * xb ∧ St w.heap.size w w' [.row D cD 144 1 la.length ((O ++ List.replicate (la.length - i) 0).map w4)]) ?_ ?_))))))))
  ·refine gc_seq fun K10 hK10 => gc_region (Zp rfl (Zp rfl (Zp rfl (Zp rfl (gl_nil (hK10 _ _ (gc_cond rfl rfl (fun c23 => ?_) (fun c23 => ?_))))))))
   ·simp only [NN, reduceCtorEq] at c23
    refine gc_region (Zp rfl (Zp rfl (Zp rfl ?_)))
    obtain ⟨v, hv⟩ : ∃ v, lb[i]? = some v := ⟨_, List.getElem?_eq_getElem (by omega)⟩
    have hvb := hb v (List.mem_of_getElem? hv)
    obtain ⟨bd, hBd, hcb⟩ := (hB.old hS).at 0 (i := (i : Int)) (by omega) (by omega)
    have hvg : lb.getD ((i : Int)).toNat 0 = v := by rw [Int.toNat_natCast, List.getD_eq_getElem?_getD, hv]; rfl
    rw [hvg] at hcb
    refine gl_op rfl rfl rfl (op_indexAddr hT rfl rfl el144.cellsOf.1 el144.cellsOf.2 rfl rfl (by omega) (by omega) hBd) ?_
    refine gl_op rfl rfl rfl (op_load hT rfl rfl rfl rfl hcb) ?_
    refine Zp rfl (gl_spell 29 (v := .int .u64 (v : Nat)) rfl (congrArg (Value.int .u64) (u64w (by omega))) ?_)
    refine Zp rfl (gl_spell 30 (v := .int .u64 ((cy + v : Nat) : Int)) rfl (congrArg (Value.int .u64) ((u64w (by omega)).trans (by omega))) ?_)
    refine Zp rfl (gl_nil ?_)
    intro x hx
    exact ⟨cy + v, hx.sub ⟨rfl, rfl, rfl, rfl, rfl, trivial⟩, by omega, by rw [nv_take hv, Nat.mul_add]; omega, hS⟩
   simp only [NN, reduceCtorEq] at c23
   refine gc_skip ?_
   intro x hx
   exact ⟨cy, hx.sub ⟨rfl, rfl, rfl, rfl, rfl, trivial⟩, by omega, by rw [List.take_of_length_le (show lb.length ≤ i + 1 by omega), List.take_of_length_le (show lb.length ≤ i by omega)], hS⟩
  rintro x w1 ⟨xb, hF, hxb, hx1, hS⟩
  refine gc_of hF ?_
  clear hF
  refine gc_seq fun K11 hK11 => gc_region (Zp rfl (gl_nil (hK11 _ _ (gc_seq fun K12 hK12 => gc_region (Zp rfl (Zp rfl ?_))))))
  obtain ⟨ad, hAd, hca⟩ := (hA.old hS).at 0 (i := (i : Int)) (by omega) (by omega)
  have hug : la.getD ((i : Int)).toNat 0 = u := by rw [Int.toNat_natCast, List.getD_eq_getElem?_getD, hu]; rfl
  rw [hug] at hca
  refine gl_op rfl rfl rfl (op_indexAddr hT rfl rfl el144.cellsOf.1 el144.cellsOf.2 rfl rfl (by omega) (by omega) hAd) ?_
  refine gl_op rfl rfl rfl (op_load hT rfl rfl rfl rfl hca) ?_
  refine Zp rfl (gl_spell 35 (v := .int .u64 (u : Nat)) rfl (congrArg (Value.int .u64) (u64w (by omega))) ?_)
  refine Zp rfl (gl_nil (hK12 _ _ (gc_cut (fun x w' => ∃ (yb cz : Nat), Fr 50 x [(0, .slice A la.length ca), (1, .slice B lb.length cb), (5, .slice D la.length cD), (6, .int .u64 (cz : Nat)), (7, .int .i64 (i : Nat)), (8, .int .u64 (xb : Nat)), (9, .int .u64 (yb : Nat))] ∧ cz ≤ 1 ∧ yb = u + 4294967296 * cz ∧ xb ≤ yb ∧ yb - xb < 4294967296 ∧ St w.heap.size w w' [.row D cD 144 1 la.length ((O ++ List.replicate (la.length - i) 0).map w4)]) ?_ ?_)))
  ·refine gc_seq fun K13 hK13 => gc_region (Zp rfl (Zp rfl (Zp rfl (gl_nil (hK13 _ _ (gc_cond rfl rfl (fun c38 => ?_) (fun c38 => ?_)))))))
   ·simp only [NN, reduceCtorEq] at c38
    refine gc_seq fun K14 hK14 => gc_region (Zp rfl (Zp rfl (gl_spell 40 (v := .int .u64 ((u + 4294967296 : Nat) : Int)) rfl (congrArg (Value.int .u64) ((u64w (by omega)).trans (by omega))) ?_)))
    refine Zp rfl (gl_nil (hK14 _ _ (gc_region (Zp rfl (gl_nil ?_)))))
    intro x hx
    exact ⟨u + 4294967296, 1, hx.sub ⟨rfl, rfl, rfl, rfl, rfl, rfl, rfl, trivial⟩, by omega, by omega, by omega, by omega, hS⟩
   simp only [NN, reduceCtorEq] at c38
   refine gc_skip ?_
   intro x hx
   exact ⟨u, 0, hx.sub ⟨rfl, rfl, rfl, rfl, rfl, rfl, rfl, trivial⟩, by omega, by omega, by omega, by omega, hS⟩
  rintro x w1 ⟨yb, cz, hF, hcz, hyb, hxy, hd32, hS⟩
  refine gc_of hF ?_
  clear hF
  refine gc_region (Zp rfl (Zp rfl (Zp rfl (Zp rfl (Zp rfl (gl_spell 45 (v := .int .u64 ((yb - xb : Nat) : Int)) rfl (congrArg (Value.int .u64) ((u64w (by omega)).trans (by omega))) ?_))))))
  refine Zp rfl (gl_spell 46 (v := w4 (yb - xb)) rfl (congrArg (Value.int .u32) ((u32w _).trans (by omega))) ?_)
  refine gl_ixR 0 hT hS rfl rfl rfl rfl rfl el144.cellsOf.1 el144.cellsOf.2 rfl rfl rfl (by omega) (by first | omega | (simp; omega)) (by first | exact Nat.le_refl _ | omega | (simp; omega)) fun g47 hg47 => ?_
  cases hg47
  refine gl_storeR 0 hS el144.cellsOf.1 el144.cellsOf.2 rfl rfl rfl rfl rfl rfl (by first | omega | (simp; omega)) rfl fun ws47 hS => ?_
  refine gl_nil (hK8 _ _ (gc_region (Zp rfl (Zi rfl (by omega) ?_))))
  refine Zp rfl (gl_nil ?_)
  intro x hx
  refine ⟨i + 1, O ++ [yb - xb], cz, _, _, hx.sub ⟨rfl, rfl, rfl, rfl, rfl, trivial⟩, by omega, by omega, by rw [List.length_append, hO]; rfl, fun z hz => ?_, hcz, ?_, ?_⟩
  ·rcases List.mem_append.1 hz with hz | hz
   ·exact hOk z hz
   rw [List.mem_singleton.1 hz]; exact hd32
  ·have e1 := nv_take hu
   have e2 : nv (O ++ [yb - xb]) = nv O + 4294967296 ^ i * (yb - xb) := by
    rw [nv_app, hO]
    show _ + _ * (yb - xb + 4294967296 * 0) = _
    rw [Nat.mul_zero, Nat.add_zero]
   have e3 : 4294967296 ^ i * xb + 4294967296 ^ i * (yb - xb) = 4294967296 ^ i * u + cz * 4294967296 ^ (i + 1) := by
    rw [← Nat.mul_add, Nat.pow_succ, show xb + (yb - xb) = u + 4294967296 * cz by omega, Nat.mul_add, ← Nat.mul_assoc, Nat.mul_comm cz]
   rw [Nat.mul_comm cy] at hval
   rw [e1, e2]
   omega
  have e4 : List.replicate (la.length - i) 0 = 0 :: List.replicate (la.length - (i + 1)) 0 := by rw [show la.length - i = (la.length - (i + 1)) + 1 by omega, List.replicate_succ]
  have hS := hS
  rw [e4] at hS
  rw [Int.toNat_natCast] at hS
  have e5 : ((O ++ 0 :: List.replicate (la.length - (i + 1)) 0).map w4).set i (w4 (yb - xb)) = ((O ++ [yb - xb]) ++ List.replicate (la.length - (i + 1)) 0).map w4 := by
   rw [← List.map_set, set_mid hO, List.append_assoc]
   rfl
  rw [← e5]
  exact hS
 simp only [NN, reduceCtorEq] at c16
 have hin : i = la.length := by omega
 subst hin
 rw [Nat.sub_self, List.replicate_zero, List.append_nil] at hS
 rw [List.take_length, List.take_of_length_le hll] at hval
 refine gc_exit ?_
 refine hK4 _ _ (gc_seq fun K15 hK15 => gc_region (Zp rfl (gl_callf rfl rfl rfl rfl Tryz.func114 rfl rfl rfl (trimW_calls D cD la.length O _ (rdE_of (hS.rd (i := 0) rfl) hO) hO.symm (by have := (hS.cap (i := 0) rfl).1; omega) (by omega)) ?_)))
 rintro _ w49 ⟨n49, rfl, hn1, hn2, hn3, hb49⟩
 refine ⟨_, rfl, ?_⟩
 have hS := hS.eqv hb49
 refine Zp rfl (gl_nil (hK15 _ _ (gc_ret (gk_ret1 rfl rfl ?_))))
 refine ⟨D, n49, cD, rfl, ?_, hS.below⟩
 have hcy0 : cy = 0 := by
  rcases Nat.lt_or_ge cy 1 with h | h
  ·omega
  have h1 := nv_lt hOk
  rw [hO] at h1
  have : cy = 1 := by omega
  subst this
  omega
 subst hcy0
 have hOv : nv O = nv la - nv lb := by omega
 constructor
 ·intro h
  rw [h] at hn2
  have : nv O = 0 := hn2.symm
  omega
 intro h
 rcases hn3 with hn3 | hn3
 ·have := congrArg List.length hn3
  rw [List.length_take, Nat.min_eq_left hn1] at this
  exact this
 rw [hn2] at hn3
 have h1 : 4294967296 ^ 0 ≤ 4294967296 ^ ((O.take n49).length - 1) := Nat.pow_le_pow_right (by decide) (Nat.zero_le _)
 rw [Nat.pow_zero] at h1
 omega
end Go.Proofs.YtnomlloaahoceaaGreatDoor

/- Whole numbers in words of 32 bits: left of the document's numbers. No condition. -/
namespace Go.Proofs.YtnomlloaahoceaaGreatDoor
open Go.RowKit
set_option linter.unusedVariables false
set_option linter.unusedSimpArgs false
theorem or_low {c u r : Nat} (hc : c < 2 ^ r) (hr : r < 32) : Go.bits .or .u32 (c : Int) ((u * 2 ^ r % 4294967296 : Nat) : Int) = ((c + u * 2 ^ r % 4294967296 : Nat) : Int) := by
 have h1 : 2 ^ r ≤ 2 ^ 31 := Nat.pow_le_pow_right (by decide) (by omega)
 have h2 : (2 : Nat) ^ 31 = 2147483648 := by decide
 rw [u32_or c _ (by omega) (Nat.mod_lt _ (by decide))]
 have e : (4294967296 : Nat) = 2 ^ (32 - r) * 2 ^ r := by rw [← Nat.pow_add, show 32 - r + r = 32 by omega]
 rw [e, Nat.mul_mod_mul_right, or_add r c _ hc]
theorem shl_u64 {u r : Nat} (hu : u < 4294967296) (hr : r < 32) : u * 2 ^ r < 4294967296 * 2 ^ r ∧ u * 2 ^ r < 18446744073709551616 := by
 have h1 : 2 ^ r ≤ 2 ^ 31 := Nat.pow_le_pow_right (by decide) (by omega)
 have h2 : (2 : Nat) ^ 31 = 2147483648 := by decide
 have h3 : 0 < 2 ^ r := Nat.two_pow_pos r
 have h4 : u * 2 ^ r < 4294967296 * 2 ^ r := Nat.mul_lt_mul_of_pos_right hu h3
 have h5 : 4294967296 * 2 ^ r ≤ 4294967296 * 2147483648 := Nat.mul_le_mul_left _ (by omega)
 exact ⟨h4, by omega⟩
theorem get_mid {pre : List Nat} {c : Nat} {r : List Nat} {i : Nat} (h : pre.length = i) : (pre ++ c :: r)[i]? = some c := by
 subst h
 rw [List.getElem?_append_right (Nat.le_refl _), Nat.sub_self]
 rfl
theorem pow32 (i n : Nat) : 4294967296 ^ (i + n / 32) * 2 ^ (n % 32) = 4294967296 ^ i * 2 ^ n := by
 have e : (4294967296 : Nat) = 2 ^ 32 := by decide
 rw [e, ← Nat.pow_mul, ← Nat.pow_add, ← Nat.pow_mul, ← Nat.pow_add]
 congr 1
 omega
set_option maxRecDepth 100000 in
theorem nleft_calls (A : Option Addr) (c n0 : Nat) (l : List Nat) (n : Nat) (w : World) {ok : Nat → Prop} (h1 : RdE w ok w4 A l) (hn0 : n0 = l.length) (hl0 : 0 < l.length) (hl : l.length ≤ 1048576) (hok : wOk l) (hn : n ≤ 4096) :
 Calls Tryz.prog 122 ⟨[.slice A n0 c, .int .i64 (n : Nat)]⟩ w fun e w' => ∃ A' c' l' K, e = .returned (.slice A' l'.length c') ∧ St w.heap.size w w' [.keep K w'] ∧ RdE w' K w4 A' l' ∧ wOk l' ∧ nv l' = nv l * 2 ^ n ∧ cano l' ∧ l'.length ≤ 1048576 + 129 := by
 subst hn0
 refine gc_enter (N := 69) Tryz.func122 rfl rfl rfl [(0, _), (1, _)] rfl ?_
 have hS := St.start w
 refine gc_seq fun K1 hK1 => gc_region (Zp rfl (gl_nil (hK1 _ _ (gc_seq fun K2 hK2 => gc_seq fun K3 hK3 => gc_region (Zp rfl (Zp rfl (Zp rfl (gl_spell 10 (v := .bool false) rfl (congrArg Value.bool (decide_eq_false (by omega))) ?_))))))))
 refine gl_nil (hK3 _ _ (gc_cond_f rfl (gc_skip (hK2 _ _ (gc_seq fun K4 hK4 => gc_region (Zp rfl (Zp rfl (Zp rfl (gl_op rfl rfl rfl (op_quoS rfl rfl rfl (by omega) (by omega)) ?_)))))))))
 refine gl_spell 14 (v := .int .i64 ((n / 32 : Nat) : Int)) rfl (congrArg (Value.int .i64) (by omega)) ?_
 refine Zi rfl (by omega) ?_
 refine Zi rfl (by omega) ?_
 refine gl_spell 16 (v := .int .i64 ((l.length + n / 32 + 1 : Nat) : Int)) rfl (congrArg (Value.int .i64) (by omega)) ?_
 refine gl_make (n := l.length + n / 32 + 1) hT hS el144 rfl rfl rfl rfl rfl rfl rfl (by omega) (by omega) fun g17 w17 hS => ?_
 refine Zp rfl (gl_nil (hK4 _ _ (gc_seq fun K5 hK5 => gc_seq fun K6 hK6 => gc_region (Zp rfl (gl_nil (hK6 _ _ (gc_block ?_)))))))
 rw [made_w4] at hS
 have hr32 : n % 32 < 32 := Nat.mod_lt _ (by decide)
 refine gc_loop (fun k x w' => ∃ (i cc : Nat) (pre : List Nat) (D : Option Addr) (cD : Nat), Fr 69 x [(0, .slice A l.length c), (1, .int .i64 (n : Nat)), (5, .slice D (l.length + n / 32 + 1) cD), (6, .int .i64 (i : Nat))] ∧ i ≤ l.length ∧ k = l.length + 1 - i ∧ pre.length = i + n / 32 ∧ wOk pre ∧ cc < 2 ^ (n % 32) ∧
  nv pre + 4294967296 ^ (i + n / 32) * cc = nv (l.take i) * 2 ^ n ∧ St w.heap.size w w' [.row D cD 144 1 (l.length + n / 32 + 1) ((pre ++ cc :: List.replicate (l.length - i) 0).map w4)]) (l.length + 1) ?_ ?_ ?_
 ·intro x hx
  refine ⟨0, 0, List.replicate (n / 32) 0, _, _, hx.sub ⟨rfl, rfl, rfl, rfl, trivial⟩, by omega, by omega, by simp, (fun z hz => by rw [(List.mem_replicate.1 hz).2]; decide), Nat.two_pow_pos _, by rw [nv_zeros]; simp [nv], ?_⟩
  rw [show List.replicate (n / 32) 0 ++ 0 :: List.replicate (l.length - 0) 0 = List.replicate (l.length + n / 32 + 1) 0 by rw [show (0 : Nat) :: List.replicate (l.length - 0) 0 = List.replicate (l.length + 1) 0 from rfl, List.replicate_append_replicate]; congr 1; omega]
  exact hS
 ·rintro x w ⟨i, _, _, _, _, _, h1, h2, _⟩; omega
 clear hS
 rintro k x w1 ⟨i, cc, pre, D, cD, hF, hi, hk, hpl, hpo, hcc, hval, hS⟩
 refine gc_of hF ?_
 clear hF
 refine gc_seq fun K7 hK7 => gc_seq fun K8 hK8 => gc_region (Zp rfl (Zp rfl (Zp rfl (Zp rfl (gl_nil (hK8 _ _ (gc_cond rfl rfl (fun c21 => ?_) (fun c21 => ?_))))))))
 ·simp only [NN, reduceCtorEq] at c21
  refine gc_skip (hK7 _ _ (gc_seq fun K9 hK9 => gc_block (gc_seq fun K10 hK10 => gc_region (Zp rfl (Zp rfl ?_)))))
  have hil : i < l.length := by omega
  obtain ⟨u, hu⟩ : ∃ u, l[i]? = some u := ⟨_, List.getElem?_eq_getElem hil⟩
  have hub := hok u (List.mem_of_getElem? hu)
  have hsh := shl_u64 hub hr32
  obtain ⟨ad, hA, hca⟩ := (h1.old hS).at 0 (i := (i : Int)) (by omega) (by omega)
  have hug : l.getD ((i : Int)).toNat 0 = u := by rw [Int.toNat_natCast, List.getD_eq_getElem?_getD, hu]; rfl
  rw [hug] at hca
  refine gl_op rfl rfl rfl (op_indexAddr hT rfl rfl el144.cellsOf.1 el144.cellsOf.2 rfl rfl (by omega) (by omega) hA) ?_
  refine gl_op rfl rfl rfl (op_load hT rfl rfl rfl rfl hca) ?_
  refine Zp rfl (gl_spell 28 (v := .int .u64 (u : Nat)) rfl (congrArg (Value.int .u64) (u64w (by omega))) ?_)
  refine Zp rfl (gl_op rfl rfl rfl (op_remS rfl rfl rfl (by omega) (by omega)) ?_)
  refine gl_spell 30 (v := .int .i64 ((n % 32 : Nat) : Int)) rfl (congrArg (Value.int .i64) (by omega)) ?_
  refine gl_op rfl rfl rfl (op_shl rfl rfl rfl (by omega) (by show ((n % 32 : Nat) : Int) ≤ (64 : Nat); omega)) ?_
  refine gl_spell 31 (v := .int .u64 ((u * 2 ^ (n % 32) : Nat) : Int)) rfl (congrArg (Value.int .u64) (by rw [Int.toNat_natCast, show ((u : Nat) : Int) * 2 ^ (n % 32) = ((u * 2 ^ (n % 32) : Nat) : Int) by simp, u64w ⟨by omega, by omega⟩])) ?_
  generalize hX : u * 2 ^ (n % 32) = X at hsh ⊢
  refine Zp rfl (gl_nil (hK10 _ _ (gc_cut (fun x w' => ∃ (D : Option Addr), Fr 69 x [(0, .slice A l.length c), (1, .int .i64 (n : Nat)), (5, .slice D (l.length + n / 32 + 1) cD), (6, .int .i64 (i : Nat)), (7, .int .u64 (X : Nat))] ∧ St w.heap.size w w' [.row D cD 144 1 (l.length + n / 32 + 1) (((pre ++ [cc + X % 4294967296]) ++ 0 :: List.replicate (l.length - (i + 1)) 0).map w4)]) ?_ ?_)))
  ·refine gc_region (Zp rfl (Zp rfl (Zp rfl (gl_op rfl rfl rfl (op_quoS rfl rfl rfl (by omega) (by omega)) ?_))))
   refine gl_spell 35 (v := .int .i64 ((n / 32 : Nat) : Int)) rfl (congrArg (Value.int .i64) (by omega)) ?_
   refine Zi rfl (by omega) ?_
   refine gl_spell 36 (v := .int .i64 ((i + n / 32 : Nat) : Int)) rfl (congrArg (Value.int .i64) (by omega)) ?_
   refine Zp rfl (Zp rfl (Zp rfl (gl_op rfl rfl rfl (op_quoS rfl rfl rfl (by omega) (by omega)) ?_)))
   refine gl_spell 40 (v := .int .i64 ((n / 32 : Nat) : Int)) rfl (congrArg (Value.int .i64) (by omega)) ?_
   refine Zi rfl (by omega) ?_
   refine gl_spell 41 (v := .int .i64 ((i + n / 32 : Nat) : Int)) rfl (congrArg (Value.int .i64) (by omega)) ?_
   have hlen1 : (pre ++ cc :: List.replicate (l.length - i) 0).length = l.length + n / 32 + 1 := by rw [List.length_append, List.length_cons, List.length_replicate, hpl]; omega
   obtain ⟨dd, hD1, hcd⟩ := (rdE_of (l := pre ++ cc :: List.replicate (l.length - i) 0) (enc := w4) (hS.rd (i := 0) rfl) hlen1).at 0 (i := ((i + n / 32 : Nat) : Int)) (by omega) (by omega)
   have hdg : (pre ++ cc :: List.replicate (l.length - i) 0).getD (((i + n / 32 : Nat) : Int)).toNat 0 = cc := by rw [Int.toNat_natCast, List.getD_eq_getElem?_getD, get_mid hpl]; rfl
   rw [hdg] at hcd
   refine gl_op rfl rfl rfl (op_indexAddr hT rfl rfl el144.cellsOf.1 el144.cellsOf.2 rfl rfl (by omega) (by omega) hD1) ?_
   refine gl_op rfl rfl rfl (op_load hT rfl rfl rfl rfl hcd) ?_
   refine Zp rfl (Zp rfl (gl_spell 45 (v := w4 (X % 4294967296)) rfl (congrArg (Value.int .u32) (u32w X)) ?_))
   refine Zp rfl (gl_spell 46 (v := w4 (cc + X % 4294967296)) rfl (congrArg (Value.int .u32) (by rw [← hX]; exact or_low hcc hr32)) ?_)
   refine gl_ixR 0 hT hS rfl rfl rfl rfl rfl el144.cellsOf.1 el144.cellsOf.2 rfl rfl rfl (by omega) (by first | omega | (simp; omega)) (by first | exact Nat.le_refl _ | omega | (simp; omega)) fun g47 hg47 => ?_
   cases hg47
   refine gl_storeR 0 hS el144.cellsOf.1 el144.cellsOf.2 rfl rfl rfl rfl rfl rfl (by first | omega | (simp; omega)) rfl fun ws47 hS => ?_
   refine gl_nil ?_
   intro x hx
   refine ⟨_, hx.sub ⟨rfl, rfl, rfl, rfl, rfl, trivial⟩, ?_⟩
   have e5 : ((pre ++ cc :: List.replicate (l.length - i) 0).map w4).set (((i + n / 32 : Nat) : Int)).toNat (w4 (cc + X % 4294967296)) = ((pre ++ [cc + X % 4294967296]) ++ 0 :: List.replicate (l.length - (i + 1)) 0).map w4 := by
    rw [Int.toNat_natCast, ← List.map_set, set_mid hpl, List.append_assoc, show List.replicate (l.length - i) 0 = 0 :: List.replicate (l.length - (i + 1)) 0 by rw [show l.length - i = (l.length - (i + 1)) + 1 by omega, List.replicate_succ]]
    rfl
   rw [← e5]
   exact hS
  clear hS
  rintro x w1 ⟨D, hF, hS⟩
  refine gc_of hF ?_
  clear hF
  have hpl2 : (pre ++ [cc + X % 4294967296]).length = i + n / 32 + 1 := by rw [List.length_append, hpl]; rfl
  refine gc_region (Zp rfl (Zp rfl (Zp rfl (gl_op rfl rfl rfl (op_quoS rfl rfl rfl (by omega) (by omega)) ?_))))
  refine gl_spell 51 (v := .int .i64 ((n / 32 : Nat) : Int)) rfl (congrArg (Value.int .i64) (by omega)) ?_
  refine Zi rfl (by omega) ?_
  refine Zi rfl (by omega) ?_
  refine gl_spell 53 (v := .int .i64 ((i + n / 32 + 1 : Nat) : Int)) rfl (congrArg (Value.int .i64) (by omega)) ?_
  refine Zp rfl (Zp rfl (Zp rfl (gl_op rfl rfl rfl (op_quoS rfl rfl rfl (by omega) (by omega)) ?_)))
  refine gl_spell 57 (v := .int .i64 ((n / 32 : Nat) : Int)) rfl (congrArg (Value.int .i64) (by omega)) ?_
  refine Zi rfl (by omega) ?_
  refine Zi rfl (by omega) ?_
  refine gl_spell 59 (v := .int .i64 ((i + n / 32 + 1 : Nat) : Int)) rfl (congrArg (Value.int .i64) (by omega)) ?_
  have hlen2 : ((pre ++ [cc + X % 4294967296]) ++ 0 :: List.replicate (l.length - (i + 1)) 0).length = l.length + n / 32 + 1 := by rw [List.length_append, List.length_cons, List.length_replicate, hpl2]; omega
  obtain ⟨dd, hD1, hcd⟩ := (rdE_of (l := (pre ++ [cc + X % 4294967296]) ++ 0 :: List.replicate (l.length - (i + 1)) 0) (enc := w4) (hS.rd (i := 0) rfl) hlen2).at 0 (i := ((i + n / 32 + 1 : Nat) : Int)) (by omega) (by omega)
  have hdg : ((pre ++ [cc + X % 4294967296]) ++ 0 :: List.replicate (l.length - (i + 1)) 0).getD (((i + n / 32 + 1 : Nat) : Int)).toNat 0 = 0 := by rw [Int.toNat_natCast, List.getD_eq_getElem?_getD, get_mid hpl2]; rfl
  rw [hdg] at hcd
  refine gl_op rfl rfl rfl (op_indexAddr hT rfl rfl el144.cellsOf.1 el144.cellsOf.2 rfl rfl (by omega) (by omega) hD1) ?_
  refine gl_op rfl rfl rfl (op_load hT rfl rfl rfl rfl hcd) ?_
  refine Zp rfl (Zp rfl (gl_spell 63 (v := .int .u64 ((X / 4294967296 : Nat) : Int)) rfl (congrArg (Value.int .u64) (u32d X)) ?_))
  have hXd : X / 4294967296 < 2 ^ (n % 32) := Nat.div_lt_of_lt_mul hsh.1
  have h31 : 2 ^ (n % 32) ≤ 2 ^ 31 := Nat.pow_le_pow_right (by decide) (by omega)
  have h31' : (2 : Nat) ^ 31 = 2147483648 := by decide
  refine Zp rfl (gl_spell 64 (v := w4 (X / 4294967296)) rfl (congrArg (Value.int .u32) ((u32w (X / 4294967296)).trans (by omega))) ?_)
  refine Zp rfl (gl_spell 65 (v := w4 (X / 4294967296)) rfl (congrArg (Value.int .u32) ((u32_or 0 (X / 4294967296) (by decide) (by omega)).trans (by rw [Nat.zero_or]))) ?_)
  refine gl_ixR 0 hT hS rfl rfl rfl rfl rfl el144.cellsOf.1 el144.cellsOf.2 rfl rfl rfl (by omega) (by first | omega | (simp; omega)) (by first | exact Nat.le_refl _ | omega | (simp; omega)) fun g66 hg66 => ?_
  cases hg66
  refine gl_storeR 0 hS el144.cellsOf.1 el144.cellsOf.2 rfl rfl rfl rfl rfl rfl (by first | omega | (simp; omega)) rfl fun ws66 hS => ?_
  refine gl_nil (hK9 _ _ (gc_region (Zp rfl (Zi rfl (by omega) ?_))))
  refine Zp rfl (gl_nil ?_)
  intro x hx
  refine ⟨i + 1, X / 4294967296, pre ++ [cc + X % 4294967296], _, _, hx.sub ⟨rfl, rfl, rfl, rfl, trivial⟩, by omega, by omega, by rw [hpl2]; omega, fun z hz => ?_, hXd, ?_, ?_⟩
  ·rcases List.mem_append.1 hz with hz | hz
   ·exact hpo z hz
   rw [List.mem_singleton.1 hz]
   have e : cc + X % 4294967296 < 4294967296 := by
    have h5 := or_low (c := cc) (u := u) hcc hr32
    rw [hX] at h5
    have h6 : Go.bits .or .u32 (cc : Int) ((X % 4294967296 : Nat) : Int) = ((cc ||| X % 4294967296 : Nat) : Int) := u32_or cc _ (by omega) (Nat.mod_lt _ (by decide))
    have h7 : cc ||| X % 4294967296 < 2 ^ 32 := Nat.or_lt_two_pow (by omega) (Nat.mod_lt _ (by decide))
    rw [h6] at h5
    have h8 : cc ||| X % 4294967296 = cc + X % 4294967296 := by omega
    rw [← h8]
    exact h7
   exact e
  ·have e1 := nv_take hu
   have e2 : nv (pre ++ [cc + X % 4294967296]) = nv pre + 4294967296 ^ (i + n / 32) * (cc + X % 4294967296) := by
    rw [nv_app, hpl]
    show _ + _ * (cc + X % 4294967296 + 4294967296 * 0) = _
    rw [Nat.mul_zero, Nat.add_zero]
   have e3 : 4294967296 ^ (i + 1 + n / 32) * (X / 4294967296) + 4294967296 ^ (i + n / 32) * (X % 4294967296) = 4294967296 ^ (i + n / 32) * X := by
    rw [show i + 1 + n / 32 = (i + n / 32) + 1 by omega, Nat.pow_succ, Nat.mul_assoc, ← Nat.mul_add]
    congr 1
    omega
   have e4 : 4294967296 ^ (i + n / 32) * X = 4294967296 ^ i * u * 2 ^ n := by
    rw [← hX, Nat.mul_comm u, ← Nat.mul_assoc, pow32, Nat.mul_assoc, Nat.mul_comm (2 ^ n), ← Nat.mul_assoc]
   rw [e1, e2, Nat.add_mul, ← e4, ← e3, ← hval, Nat.mul_add]
   omega
  have e6 : (((pre ++ [cc + X % 4294967296]) ++ 0 :: List.replicate (l.length - (i + 1)) 0).map w4).set (((i + n / 32 + 1 : Nat) : Int)).toNat (w4 (X / 4294967296)) = ((pre ++ [cc + X % 4294967296]) ++ (X / 4294967296) :: List.replicate (l.length - (i + 1)) 0).map w4 := by
   rw [Int.toNat_natCast, ← List.map_set, set_mid hpl2]
  rw [← e6]
  exact hS
 simp only [NN, reduceCtorEq] at c21
 have hin : i = l.length := by omega
 subst hin
 rw [Nat.sub_self, List.replicate_zero] at hS
 rw [List.take_length] at hval
 have hlen3 : (pre ++ [cc]).length = l.length + n / 32 + 1 := by rw [List.length_append, hpl]; rfl
 refine gc_exit ?_
 refine hK5 _ _ (gc_seq fun K11 hK11 => gc_region (Zp rfl (gl_callf rfl rfl rfl rfl Tryz.func114 rfl rfl rfl (trimW_calls D cD _ (pre ++ [cc]) _ (rdE_of (hS.rd (i := 0) rfl) hlen3) hlen3.symm (by have := (hS.cap (i := 0) rfl).1; omega) (by omega)) ?_)))
 rintro _ w68 ⟨n68, rfl, hn1, hn2, hn3, hb68⟩
 refine ⟨_, rfl, ?_⟩
 have hS := hS.eqv hb68
 refine Zp rfl (gl_nil (hK11 _ _ (gc_ret (gk_ret1 rfl rfl ?_))))
 have hrd : RdE w68 (fun b => ∃ it ∈ [It.row D cD 144 1 (l.length + n / 32 + 1) ((pre ++ [cc]).map w4)], it.fp b) w4 D (pre ++ [cc]) := rdE_of (hS.rowRd (i := 0) rfl (keep_mem (.head _))) hlen3
 have h31 : 2 ^ (n % 32) ≤ 2 ^ 31 := Nat.pow_le_pow_right (by decide) (by omega)
 have h31' : (2 : Nat) ^ 31 = 2147483648 := by decide
 refine ⟨D, cD, (pre ++ [cc]).take n68, _, ?_, hS.keepAll, hrd.take n68, ?_, ?_, hn3, ?_⟩
 ·rw [List.length_take, Nat.min_eq_left hn1]
 ·refine wOk_take (fun z hz => ?_) n68
  rcases List.mem_append.1 hz with hz | hz
  ·exact hpo z hz
  rw [List.mem_singleton.1 hz]; omega
 ·rw [hn2, nv_app, hpl]
  show _ + _ * (cc + 4294967296 * 0) = _
  rw [Nat.mul_zero, Nat.add_zero, hval]
 rw [List.length_take]; omega
end Go.Proofs.YtnomlloaahoceaaGreatDoor
