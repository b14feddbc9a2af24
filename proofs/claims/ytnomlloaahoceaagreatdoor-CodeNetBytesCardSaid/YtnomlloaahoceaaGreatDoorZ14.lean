/- Contracts of functions that CodeNetBytes reaches, and words to say them. No condition. -/
import Derived.Test.YtnomlloaahoceaaGreatDoorZ12
import Derived.Test.YtnomlloaahoceaaGreatDoorZ13
import Derived.Test.YtnomlloaahoceaaGreatDoorZ03
import Derived.Test.YtnomlloaahoceaaGreatDoorZ11
/- Contracts of package code: the form of a question. No condition. -/
namespace Go.Proofs.YtnomlloaahoceaaGreatDoor
open Go.RowKit
set_option linter.unusedVariables false
set_option linter.unusedSimpArgs false
def leastV (p : Px) : Int := if 0 < p.M.length then ((p.M.getD 0 []).length : Int) - 1 else max 2 (min p.T 256 + 1)
def formV (p : Px) : Int × Int := if p.C.length = 0 ∨ 256 < p.C.length then (65, 0) else propV p p.C.length (leastV p)
theorem leastV_i64 {p : Px} {w : World} {ok : Nat → Prop} {C G M : Sv} {SG SM : List Sv} (D : PrM w ok C G M SG SM p) : i64 (leastV p) := by
 have h1 := D.iT
 unfold leastV
 split
 ·rename_i h0
  have hx : p.M[0]? = some (p.M.getD 0 []) := by rw [List.getD_eq_getElem?_getD, List.getElem?_eq_getElem h0]; rfl
  have hl := D.rM.len
  obtain ⟨x, hx2⟩ : ∃ x, SM[0]? = some x := ⟨_, List.getElem?_eq_getElem (by omega)⟩
  have := (D.rM.rd 0 x _ hx2 hx).2.2.1
  unfold i64
  omega
 unfold i64 at h1 ⊢
 omega
set_option maxRecDepth 100000 in
theorem checkForm_calls (C G M : Sv) (SG SM : List Sv) (p : Px) (w : World) {ok : Nat → Prop} (D : PrM w ok C G M SG SM p) :
 Calls Tryz.prog 45 ⟨[.agg ⟨propC C G M p⟩]⟩ w fun e w' => e = .returned (.tuple #[.int .i64 (formV p).1, .int .i64 (formV p).2]) ∧ Below w.heap.size w w' := by
 have hi := leastV_i64 D
 have hiT := D.iT
 have hl := D.rM.len
 have hnC := D.nC
 have hlC := D.lC
 have hnM := D.nM
 obtain ⟨R, hR⟩ : ∃ R, R = formV p := ⟨_, rfl⟩
 rw [← hR]
 unfold formV at hR
 obtain ⟨C1, C2, C3⟩ := C
 obtain ⟨M1, M2, M3⟩ := M
 simp only at hnC hnM
 subst hnC
 subst hnM
 refine gc_enter (N := 38) Tryz.func45 rfl rfl rfl [(0, _)] rfl ?_
 have hS := St.start w
 refine gc_seq fun K1 hK1 => gc_region (gl_box hS rfl rfl rfl rfl rfl fun g1 w1 hS => ?_)
 refine Zp rfl (Zp rfl (gl_nil (hK1 _ _ (gc_seq fun K2 hK2 => gc_seq fun K3 hK3 => gc_region (Zf 0 Tryz.underlying53 rfl el45 (Zb 0 hS rfl (Zp rfl (Zp rfl (Zp rfl (gl_split (t := 9) rfl (fun c9 => ?_) (fun c9 => ?_)))))))))))
 ·simp only [NN, reduceCtorEq] at c9
  refine Zs rfl (Zs rfl (Zs rfl (Zs rfl (Zp rfl (gl_nil (hK3 _ _ (gc_cond_t rfl (gc_seq fun K4 hK4 => gc_region (Zp rfl (Zp rfl (gl_nil (hK4 _ _ (gc_ret ?_)))))))))))))
  simp only [XR]
  refine gk_ret2 rfl rfl rfl ?_
  rw [if_pos (by omega)] at hR
  rw [hR]
  exact ⟨rfl, hS.below⟩
 simp only [NN, reduceCtorEq] at c9
 refine Zu rfl (Zf 0 Tryz.underlying53 rfl el45 (Zu rfl (Zb 0 hS rfl (Zu rfl (Zp rfl (Zu rfl (Zp rfl (Zp rfl (gl_nil (hK3 _ _ (gc_cond rfl rfl (fun c14 => ?_) (fun c14 => ?_))))))))))))
 ·simp only [NN, reduceCtorEq] at c14
  refine gc_seq fun K5 hK5 => gc_region (Zp rfl (Zp rfl (gl_nil (hK5 _ _ (gc_ret ?_)))))
  simp only [XR]
  refine gk_ret2 rfl rfl rfl ?_
  rw [if_pos (by omega)] at hR
  rw [hR]
  exact ⟨rfl, hS.below⟩
 simp only [NN, reduceCtorEq] at c14
 refine gc_skip (hK2 _ _ (gc_seq fun K6 hK6 => gc_region (Zf 2 Tryz.underlying53 rfl el3 (Zb 0 hS rfl (gl_op rfl rfl rfl (op_min2 rfl rfl rfl) ?_)))))
 refine Zi rfl (by omega) ?_
 refine gl_op rfl rfl rfl (op_max2 rfl rfl rfl) ?_
 refine Zp rfl (gl_nil (hK6 _ _ (gc_seq fun K7 hK7 => gc_seq fun K8 hK8 => gc_region (Zf 3 Tryz.underlying53 rfl el51 (Zb 0 hS rfl (Zp rfl (Zp rfl (gl_nil (hK8 _ _ (gc_cond rfl rfl (fun c23 => ?_) (fun c23 => ?_)))))))))))
 ·simp only [NN, reduceCtorEq] at c23
  refine gc_region (Zf 3 Tryz.underlying53 rfl el51 (Zb 0 hS rfl ?_))
  have hM0 : p.M[0]? = some (p.M.getD 0 []) := by rw [List.getD_eq_getElem?_getD, List.getElem?_eq_getElem (by omega)]; rfl
  obtain ⟨x, hx2⟩ : ∃ x, SM[0]? = some x := ⟨_, List.getElem?_eq_getElem (by omega)⟩
  have hx3 := D.rM.rd 0 x _ hx2 hM0
  obtain ⟨ad, hA, hc⟩ := (D.rM.rS.old hS).at (none, 0, 0) (i := (0 : Int)) (by omega) (by omega)
  have hug : SM.getD ((0 : Int)).toNat (none, 0, 0) = x := by show SM.getD 0 _ = x; rw [List.getD_eq_getElem?_getD, hx2]; rfl
  rw [hug] at hc
  refine gl_op rfl rfl rfl (op_indexAddr hT rfl rfl el45.cellsOf.1 el45.cellsOf.2 rfl rfl (by omega) (by omega) hA) ?_
  refine gl_op rfl rfl rfl (op_load hT rfl rfl rfl rfl hc) ?_
  refine Zp rfl (Zi rfl (by omega) ?_)
  refine Zp rfl (gl_nil (hK7 _ _ (gc_seq fun K9 hK9 => gc_region (Zg 0 Tryz.underlying53 el53 hS rfl (Zf 0 Tryz.underlying53 rfl el45 (Zb 0 hS rfl (Zp rfl (Zp rfl (gl_spell 34 (v := .int .i64 (leastV p)) rfl (congrArg (Value.int .i64) (by unfold leastV; split <;> omega)) ?_)))))))))
  rw [if_neg (by omega)] at hR
  refine gl_callf rfl rfl rfl rfl Tryz.func75 rfl rfl rfl (checkProp_calls _ G _ SG SM p _ (leastV p) _ (D.old hS)) ?_
  rintro _ w35 ⟨rfl, hb35⟩
  refine ⟨_, rfl, ?_⟩
  have hS := hS.grown hb35
  rw [← hR]
  refine Zp rfl (Zp rfl (Zp rfl (Zp rfl (gl_nil (hK9 _ _ (gc_ret ?_))))))
  simp only [XR]
  refine gk_ret2 rfl rfl rfl ?_
  exact ⟨rfl, hS.below⟩
 simp only [NN, reduceCtorEq] at c23
 refine gc_skip (hK7 _ _ (gc_seq fun K10 hK10 => gc_region (Zg 0 Tryz.underlying53 el53 hS rfl (Zf 0 Tryz.underlying53 rfl el45 (Zb 0 hS rfl (Zp rfl (Zp rfl (gl_spell 34 (v := .int .i64 (leastV p)) rfl (congrArg (Value.int .i64) (by unfold leastV; split <;> omega)) ?_))))))))
 rw [if_neg (by omega)] at hR
 refine gl_callf rfl rfl rfl rfl Tryz.func75 rfl rfl rfl (checkProp_calls _ G _ SG SM p _ (leastV p) _ (D.old hS)) ?_
 rintro _ w35 ⟨rfl, hb35⟩
 refine ⟨_, rfl, ?_⟩
 have hS := hS.grown hb35
 rw [← hR]
 refine Zp rfl (Zp rfl (Zp rfl (Zp rfl (gl_nil (hK10 _ _ (gc_ret ?_))))))
 simp only [XR]
 refine gk_ret2 rfl rfl rfl ?_
 exact ⟨rfl, hS.below⟩
end Go.Proofs.YtnomlloaahoceaaGreatDoor

/- Contracts of package ambitref8: a reader that goes on when it has failed. No condition. -/
namespace Go.Proofs.YtnomlloaahoceaaGreatDoor
open Go.RowKit
set_option linter.unusedVariables false
set_option linter.unusedSimpArgs false
structure RS where
 a : Int
 e : Int
 i : Int
def RS.fl (s : RS) (x at_ : Int) : RS := if s.e = 0 ∧ x ≠ 0 then ⟨s.a, x, at_⟩ else s
@[reducible] def rsC (A : Option Addr) (n c : Nat) (s : RS) : List Value := [.slice A n c, .int .i64 s.a, .int .i64 s.e, .int .i64 s.i]
def rsU (l : List UInt8) (s : RS) : Int × RS := if s.e ≠ 0 then (0, s) else ((readUV l s.a).1, ⟨(readUV l s.a).2.1, (s.fl (readUV l s.a).2.2 s.a).e, (s.fl (readUV l s.a).2.2 s.a).i⟩)
def rsF1 (l : List UInt8) (s : RS) : Nat × RS := ((readFloatV l s.a).1, ⟨(readFloatV l s.a).2.1, (s.fl (readFloatV l s.a).2.2 s.a).e, (s.fl (readFloatV l s.a).2.2 s.a).i⟩)
def rsFs (l : List UInt8) : Nat → RS → List Nat × RS
 | 0, s => ([], s)
 | n + 1, s => if s.e ≠ 0 then ([], s) else ((rsF1 l s).1 :: (rsFs l n (rsF1 l s).2).1, (rsFs l n (rsF1 l s).2).2)
theorem rsFs_dead {l : List UInt8} {n : Nat} {s : RS} (h : s.e ≠ 0) : rsFs l n s = ([], s) := by
 cases n with
 | zero => rfl
 | succ n => unfold rsFs; rw [if_pos h]
theorem rsFs_succ {l : List UInt8} {n : Nat} {s : RS} (h : ¬ s.e ≠ 0) : rsFs l (n + 1) s = ((rsF1 l s).1 :: (rsFs l n (rsF1 l s).2).1, (rsFs l n (rsF1 l s).2).2) := if_neg h
theorem rsFs_snoc {l : List UInt8} : ∀ {n : Nat} {s : RS} {us : List Nat} {s1 : RS} (k : Nat), rsFs l n s = (us, s1) → rsFs l (n + k) s = (us ++ (rsFs l k s1).1, (rsFs l k s1).2)
 | 0, s, us, s1, k, h => by
  obtain ⟨rfl, rfl⟩ := Prod.mk.inj h
  rw [Nat.zero_add]
  rfl
 | n + 1, s, us, s1, k, h => by
  by_cases he : s.e ≠ 0
  ·rw [rsFs_dead he] at h ⊢
   obtain ⟨rfl, rfl⟩ := Prod.mk.inj h
   rw [rsFs_dead he]
   rfl
  rw [show n + 1 + k = (n + k) + 1 by omega, rsFs_succ he]
  rw [rsFs_succ he] at h
  obtain ⟨rfl, rfl⟩ := Prod.mk.inj h
  have h2 := rsFs_snoc (l := l) (n := n) (s := (rsF1 l s).2) k rfl
  rw [h2]
  rfl
theorem op_cat {P : Program} {N : Nt} {e : Env} {w : World} {o : Oper} {t yt : TypeId} {x y : Operand} {a b : ByteArray} (ho : o.op = .binOp .add t x y yt) (hx : evO e x = some (.string a)) (hy : evO e y = some (.string b)) (hz : a.size + b.size ≤ 9223372036854775807) : OpR P N e w o (.string (a ++ b)) := by
 intro q c ha
 have hz : (a.size : Int) + b.size ≤ 9223372036854775807 := by omega
 simp [hz, execOp, ho, ha.eval hx, ha.eval hy, eqGuard, binOp, Op.stringOp, Sem.run_bind, Sem.run_pure]
theorem strB_append (a b : List UInt8) : strB a ++ strB b = strB (a ++ b) := by
 apply ByteArray.ext
 simp [strB]
theorem rF_at (l : List UInt8) (at_ : Int) : 0 ≤ (readFloatV l at_).2.1 := by
 unfold readFloatV
 split
 ·exact Int.le_refl 0
 split
 ·exact Int.le_refl 0
 split
 ·exact Int.le_refl 0
 show 0 ≤ at_ + 8
 omega
theorem rdFail_calls {B : Nat} {w0 : World} (g : Nat) (bt : TypeId) (A : Option Addr) (n c : Nat) (s : RS) (x at_ : Int) (L : List It) (w : World) (hS0 : St B w0 w (.blk g bt (rsC A n c s) :: L)) :
 Calls Tryz.prog 30 ⟨[.pointer (some ⟨g, 0, none⟩), .int .i64 x, .int .i64 at_]⟩ w fun en w' => en = .returned (.tuple #[]) ∧ St B w0 w' (.blk g bt (rsC A n c (s.fl x at_)) :: L) := by
 obtain ⟨sa, se, si⟩ := s
 refine gc_enter (N := 23) Tryz.func30 rfl rfl rfl [(0, _), (1, _), (2, _)] rfl ?_
 have hS := St.start w
 have hS := hS0
 refine gc_seq fun K1 hK1 => gc_region (Zp rfl (Zp rfl (Zf 2 Tryz.underlying72 rfl el3 (Zb 0 hS rfl (Zp rfl (Zp rfl (gl_split (t := 11) rfl (fun c11 => ?_) (fun c11 => ?_))))))))
 ·simp only [NN, reduceCtorEq] at c11
  refine Zu rfl (Zp rfl (Zu rfl (Zp rfl (Zp rfl (gl_nil (hK1 _ _ (gc_cond rfl rfl (fun c14 => ?_) (fun c14 => ?_))))))))
  ·simp only [NN, reduceCtorEq] at c14
   refine gc_seq fun K2 hK2 => gc_region (Zp rfl (Zp rfl (Zp rfl (Zf 2 Tryz.underlying72 rfl el3 (gl_store 0 hS el3.cellsOf.1 el3.cellsOf.2 rfl rfl rfl rfl rfl rfl rfl rfl fun w_108 hS => ?_)))))
   refine gl_nil (hK2 _ _ (gc_region (Zp rfl (Zp rfl (Zp rfl (Zf 3 Tryz.underlying72 rfl el3 (gl_store 0 hS el3.cellsOf.1 el3.cellsOf.2 rfl rfl rfl rfl rfl rfl rfl rfl fun w_109 hS => ?_)))))))
   refine gl_nil (gk_end0 rfl ?_)
   refine ⟨rfl, ?_⟩
   unfold RS.fl
   rw [if_pos (by simp only; omega)]; exact hS
  simp only [NN, reduceCtorEq] at c14
  refine gc_skip (gk_end0 rfl ?_)
  refine ⟨rfl, ?_⟩
  unfold RS.fl
  rw [if_neg (by simp only; omega)]; exact hS
 simp only [NN, reduceCtorEq] at c11
 refine Zs rfl (Zs rfl (Zp rfl (gl_nil (hK1 _ _ (gc_cond_f rfl (gc_skip (gk_end0 rfl ?_)))))))
 refine ⟨rfl, ?_⟩
 unfold RS.fl
 rw [if_neg (by simp only; omega)]; exact hS
theorem rdUint_calls {B : Nat} {w0 : World} (g : Nat) (bt : TypeId) (A : Option Addr) (c : Nat) (l : List UInt8) (s : RS) (L : List It) (w : World) (hS0 : St B w0 w (.blk g bt (rsC A l.length c s) :: L)) {ok : Nat → Prop} (hr : Rdb B w0 ok A l) (hb : l.length ≤ 4611686018427387904) :
 Calls Tryz.prog 28 ⟨[.pointer (some ⟨g, 0, none⟩)]⟩ w fun en w' => en = .returned (.int .i64 (rsU l s).1) ∧ St B w0 w' (.blk g bt (rsC A l.length c (rsU l s).2) :: L) := by
 obtain ⟨sa, se, si⟩ := s
 refine gc_enter (N := 36) Tryz.func28 rfl rfl rfl [(0, _)] rfl ?_
 have hS := St.start w
 have hS := hS0
 refine gc_seq fun K1 hK1 => gc_region (Zp rfl (gl_nil (hK1 _ _ (gc_seq fun K2 hK2 => gc_seq fun K3 hK3 => gc_region (Zp rfl (Zp rfl (Zf 2 Tryz.underlying72 rfl el3 (Zb 0 hS rfl (Zp rfl (gl_nil (hK3 _ _ (gc_cond rfl rfl (fun c10 => ?_) (fun c10 => ?_)))))))))))))
 ·simp only [NN, reduceCtorEq] at c10
  refine gc_seq fun K4 hK4 => gc_region (Zp rfl (gl_nil (hK4 _ _ (gc_ret ?_))))
  simp only [XR]
  refine gk_ret1 rfl rfl ?_
  unfold rsU
  rw [if_pos (by simp only; omega)]
  exact ⟨rfl, hS⟩
 simp only [NN, reduceCtorEq] at c10
 refine gc_skip (hK2 _ _ (gc_seq fun K5 hK5 => gc_anyS hS (by kernel_rfl) rfl fun nq3 hK => ?_))
 have hS := hS.dr nq3
 refine Yp 0 rfl (by kernel_rfl) (fun _ _ _ _ h => h) hK ?_
 refine Yp 1 rfl (by kernel_rfl) (fun _ _ _ _ h => h) hK ?_
 refine Yf 2 0 Tryz.underlying72 rfl el22 (by kernel_rfl) (fun _ _ _ _ h => h) hK ?_
 refine Yb 3 0 rfl (by kernel_rfl) (fun _ _ _ _ h => h) hK ?_
 refine Yp 4 rfl (by kernel_rfl) (fun _ _ _ _ h => h) hK ?_
 refine Yp 5 rfl (by kernel_rfl) (fun _ _ _ _ h => h) hK ?_
 refine Yf 6 1 Tryz.underlying72 rfl el3 (by kernel_rfl) (fun _ _ _ _ h => h) hK ?_
 refine Yb 7 0 rfl (by kernel_rfl) (fun _ _ _ _ h => h) hK ?_
 refine ga_one 8 (by kernel_rfl) rfl ?_
 refine gl_callf rfl rfl rfl rfl Tryz.func55 rfl rfl rfl (rReadUint_calls A c l sa _ (hr hS) (by omega)) ?_
 rintro _ _ ⟨rfl, n20, rfl⟩
 refine ⟨_, rfl, ?_⟩
 have hS := hS.dr n20
 refine gl_nil (ga_next hS fun hK => ?_)
 refine Yp 9 rfl (by kernel_rfl) (fun _ _ _ _ h => h) hK ?_
 refine Yp 10 rfl (by kernel_rfl) (fun _ _ _ _ h => h) hK ?_
 refine Yp 11 rfl (by kernel_rfl) (fun _ _ _ _ h => h) hK ?_
 refine Yp 12 rfl (by kernel_rfl) (fun _ _ _ _ h => h) hK ?_
 refine Yp 13 rfl (by kernel_rfl) (fun _ _ _ _ h => h) hK ?_
 refine Yp 14 rfl (by kernel_rfl) (fun _ _ _ _ h => h) hK ?_
 refine Yp 15 rfl (by kernel_rfl) (fun _ _ _ _ h => h) hK ?_
 refine ga_done (by kernel_rfl) ?_
 refine hK5 _ _ (gc_seq fun K6 hK6 => gc_region (Zp rfl (Zp rfl (Zp rfl (Zp rfl (Zf 1 Tryz.underlying72 rfl el3 (Zb 0 hS rfl (gl_callf rfl rfl rfl rfl Tryz.func30 rfl rfl rfl (rdFail_calls g bt A l.length c ⟨sa, se, si⟩ (readUV l sa).2.2 sa _ _ hS) ?_))))))))
 rintro _ w30 ⟨rfl, hS⟩
 refine ⟨_, rfl, ?_⟩
 refine gl_nil (hK6 _ _ (gc_seq fun K7 hK7 => gc_region (Zp rfl (Zp rfl (Zp rfl (Zf 1 Tryz.underlying72 rfl el3 (gl_store 0 hS el3.cellsOf.1 el3.cellsOf.2 rfl rfl rfl rfl rfl rfl rfl rfl fun w_120 hS => ?_)))))))
 refine gl_nil (hK7 _ _ (gc_seq fun K8 hK8 => gc_region (Zp rfl (Zp rfl (gl_nil (hK8 _ _ (gc_ret ?_)))))))
 simp only [XR]
 refine gk_ret1 rfl rfl ?_
 unfold rsU
 rw [if_neg (by simp only; omega)]
 exact ⟨rfl, hS⟩
theorem rsF1_lt (l : List UInt8) (s : RS) : (rsF1 l s).1 < 18446744073709551616 := by
 show (readFloatV l s.a).1 < _
 unfold readFloatV
 split
 ·show 0 < _; omega
 split
 ·show 0 < _; omega
 split
 ·show 0 < _; omega
 have := vLE_lt l s.a.toNat 8
 rw [show (256 : Nat) ^ 8 = 18446744073709551616 by decide] at this
 exact this
theorem rsFs_ok (l : List UInt8) : ∀ (n : Nat) (s : RS), (rsFs l n s).1.length ≤ n ∧ (∀ u ∈ (rsFs l n s).1, u < 18446744073709551616) ∧ (0 ≤ s.a → 0 ≤ (rsFs l n s).2.a) ∧ ((rsFs l n s).2.e = 0 → s.e = 0)
 | 0, s => ⟨Nat.le_refl _, (fun u hu => by cases hu), id, id⟩
 | n + 1, s => by
  by_cases he : s.e ≠ 0
  ·rw [rsFs_dead he]
   exact ⟨Nat.zero_le _, (fun u hu => by cases hu), id, id⟩
  obtain ⟨h1, h2, h3, h4⟩ := rsFs_ok l n (rsF1 l s).2
  rw [rsFs_succ he]
  refine ⟨by simp only [List.length_cons]; omega, fun u hu => ?_, fun _ => h3 (rF_at l s.a), fun _ => by omega⟩
  rcases List.mem_cons.1 hu with rfl | hu
  ·exact rsF1_lt l s
  exact h2 u hu
set_option maxRecDepth 100000 in
theorem rdFloats_calls {B : Nat} {w0 : World} (g : Nat) (bt : TypeId) (A : Option Addr) (c : Nat) (l : List UInt8) (s : RS) (m : Int) (L : List It) (w : World) (hS0 : St B w0 w (.blk g bt (rsC A l.length c s) :: L)) {ok : Nat → Prop} (hr : Rdb B w0 ok A l) (hb : l.length ≤ 4611686018427387904) (hm0 : 0 ≤ m ∧ m ≤ 9223372036854775807) (hm : s.e = 0 → m ≤ 1048576) (ha : 0 ≤ s.a) :
 Calls Tryz.prog 57 ⟨[.pointer (some ⟨g, 0, none⟩), .int .i64 m]⟩ w fun en w' => ∃ A' c', en = .returned (.slice A' (rsFs l m.toNat s).1.length c') ∧ St B w0 w' (.blk g bt (rsC A l.length c (rsFs l m.toNat s).2) :: .row A' c' 77 1 (rsFs l m.toNat s).1.length ((rsFs l m.toNat s).1.map uV) :: L) := by
 obtain ⟨m, rfl⟩ : ∃ k : Nat, m = k := ⟨m.toNat, by omega⟩
 rw [Int.toNat_natCast]
 refine gc_enter (N := 51) Tryz.func57 rfl rfl rfl [(0, _), (1, _)] rfl ?_
 have hS := St.start w
 have hS := hS0
 refine gc_seq fun K1 hK1 => gc_region (Zp rfl (gl_nil (hK1 _ _ (gc_seq fun K2 hK2 => gc_region (Zp rfl (gl_nil (hK2 _ _ (gc_seq fun K3 hK3 => gc_seq fun K4 hK4 => gc_region (Zp rfl (gl_nil (hK4 _ _ (gc_block ?_))))))))))))
 have hS := (hS.nil 77 1).front2
 refine gc_loop (fun kk a' w' => ∃ (i : Nat) (us : List Nat) (s1 : RS) (A' : Option Addr) (c' : Nat), Fr 51 a' [(0, .pointer (some ⟨g, 0, none⟩)), (1, .int .i64 (m : Nat)), (5, .slice A' us.length c'), (6, .int .i64 (i : Nat))] ∧ i ≤ m ∧ kk = m + 1 - i ∧ us.length ≤ i ∧ rsFs l i s = (us, s1) ∧ 0 ≤ s1.a ∧ (s1.e = 0 → s.e = 0) ∧
  St B w0 w' (.blk g bt (rsC A l.length c s1) :: .row A' c' 77 1 us.length (us.map uV) :: L)) (m + 1) ?_ ?_ ?_
 ·intro a' ha; exact ⟨0, [], s, none, 0, ha.sub ⟨rfl, rfl, rfl, rfl, trivial⟩, by omega, by omega, Nat.le_refl _, rfl, by assumption, id, hS⟩
 ·rintro a' w' ⟨i, _, _, _, _, _, h1, h2, _⟩; omega
 clear hS
 rintro kk a' w1 ⟨i, us, s1, A', c', hF, hi, hk, hul, hus, hmin, hdead, hS⟩
 refine gc_of hF ?_
 clear hF
 have hsn := rsFs_snoc (l := l) (n := i) (s := s) (k := 1) hus
 refine gc_seq fun K5 hK5 => gc_seq fun K6 hK6 => gc_region (Zp rfl (Zp rfl (Zp rfl (Zp rfl (gl_split (t := 13) rfl (fun c13 => ?_) (fun c13 => ?_))))))
 ·simp only [NN, reduceCtorEq] at c13
  refine Zu rfl (Zp rfl (Zu rfl (Zp rfl (Zu rfl (Zf 2 Tryz.underlying72 rfl el3 (Zu rfl (Zb 0 hS rfl (Zu rfl (Zp rfl (Zp rfl (gl_nil (hK6 _ _ (gc_cond rfl rfl (fun c19 => ?_) (fun c19 => ?_))))))))))))))
  ·simp only [NN, reduceCtorEq] at c19
   refine gc_skip (hK5 _ _ (gc_seq fun K7 hK7 => gc_block (gc_seq fun K8 hK8 => gc_anyS hS (by kernel_rfl) rfl fun nq5 hK => ?_)))
   have hS := hS.dr nq5
   refine Yp 0 rfl (by kernel_rfl) (fun _ _ _ _ h => h) hK ?_
   refine Yp 1 rfl (by kernel_rfl) (fun _ _ _ _ h => h) hK ?_
   refine Yf 2 0 Tryz.underlying72 rfl el22 (by kernel_rfl) (fun _ _ _ _ h => h) hK ?_
   refine Yb 3 0 rfl (by kernel_rfl) (fun _ _ _ _ h => h) hK ?_
   refine Yp 4 rfl (by kernel_rfl) (fun _ _ _ _ h => h) hK ?_
   refine Yp 5 rfl (by kernel_rfl) (fun _ _ _ _ h => h) hK ?_
   refine Yf 6 1 Tryz.underlying72 rfl el3 (by kernel_rfl) (fun _ _ _ _ h => h) hK ?_
   refine Yb 7 0 rfl (by kernel_rfl) (fun _ _ _ _ h => h) hK ?_
   refine ga_one 8 (by kernel_rfl) rfl ?_
   refine gl_callf rfl rfl rfl rfl Tryz.func82 rfl rfl rfl (rReadFloat_calls A c l s1.a _ (hr hS) (by omega) (by omega)) ?_
   rintro _ _ ⟨rfl, n31, rfl⟩
   refine ⟨_, rfl, ?_⟩
   have hS := hS.dr n31
   refine gl_nil (ga_next hS fun hK => ?_)
   refine Yp 9 rfl (by kernel_rfl) (fun _ _ _ _ h => h) hK ?_
   refine Yp 10 rfl (by kernel_rfl) (fun _ _ _ _ h => h) hK ?_
   refine Yp 11 rfl (by kernel_rfl) (fun _ _ _ _ h => h) hK ?_
   refine Yp 12 rfl (by kernel_rfl) (fun _ _ _ _ h => h) hK ?_
   refine Yp 13 rfl (by kernel_rfl) (fun _ _ _ _ h => h) hK ?_
   refine Yp 14 rfl (by kernel_rfl) (fun _ _ _ _ h => h) hK ?_
   refine Yp 15 rfl (by kernel_rfl) (fun _ _ _ _ h => h) hK ?_
   refine ga_done (by kernel_rfl) ?_
   refine hK8 _ _ (gc_seq fun K9 hK9 => gc_region (Zp rfl (Zp rfl (Zp rfl (Zp rfl (Zf 1 Tryz.underlying72 rfl el3 (Zb 0 hS rfl (gl_callf rfl rfl rfl rfl Tryz.func30 rfl rfl rfl (rdFail_calls g bt A l.length c s1 (readFloatV l s1.a).2.2 s1.a _ _ hS) ?_))))))))
   rintro _ w41 ⟨rfl, hS⟩
   refine ⟨_, rfl, ?_⟩
   have hmb : m ≤ 1048576 := by have := hm (hdead (by omega)); omega
   refine gl_nil (hK9 _ _ (gc_seq fun K10 hK10 => gc_region (Zp rfl (Zp rfl (Zp rfl (Zf 1 Tryz.underlying72 rfl el3 (gl_store 0 hS el3.cellsOf.1 el3.cellsOf.2 rfl rfl rfl rfl rfl rfl rfl rfl fun w_130 hS => ?_)))))))
   refine gl_nil (hK10 _ _ (gc_region (Zp rfl (Zp rfl (gl_lit hT hS el77 rfl rfl rfl rfl rfl rfl rfl rfl rfl fun g48 w48 hS => ?_)))))
   have hS := hS.moveIn 2
   refine gl_append 1 hT hS el77 (hS.rd (i := 2) rfl) (rfl) rfl rfl rfl rfl rfl rfl rfl rfl (by first | omega | (simp; omega)) (by first | omega | (simp; omega)) fun A49 c49 w49 hS => ?_
   have hS := hS.erase 2
   refine Zp rfl (gl_nil (hK7 _ _ (gc_region (Zp rfl (Zi rfl (by omega) ?_)))))
   refine Zp rfl (gl_nil ?_)
   intro a' ha
   have he : ¬ s1.e ≠ 0 := by omega
   have h1 : rsFs l 1 s1 = ([(rsF1 l s1).1], (rsF1 l s1).2) := rsFs_succ he
   rw [h1] at hsn
   refine ⟨i + 1, us ++ [(rsF1 l s1).1], (rsF1 l s1).2, A49, c49, ha.sub ⟨rfl, rfl, ?_, rfl, trivial⟩, by omega, by omega, by rw [List.length_append]; simp; omega, hsn, rF_at l s1.a, fun _ => hdead (by omega), ?_⟩
   ·rw [List.length_append]; rfl
   rw [List.map_append, List.length_append]
   exact hS
  simp only [NN, reduceCtorEq] at c19
  refine gc_exit ?_
  refine hK3 _ _ (gc_seq fun K11 hK11 => gc_region (Zp rfl (Zp rfl (gl_nil (hK11 _ _ (gc_ret (gk_ret1 rfl rfl ?_)))))))
  have hfin : rsFs l m s = (us, s1) := by
   have h2 := rsFs_snoc (l := l) (n := i) (s := s) (k := m - i) hus
   rw [show i + (m - i) = m by omega] at h2
   by_cases he : s1.e ≠ 0
   ·rw [rsFs_dead he, List.append_nil] at h2; exact h2
   have him : m - i = 0 := by omega
   rw [him] at h2
   rw [h2]
   exact congrArg (·, s1) (List.append_nil us)
  rw [hfin]
  exact ⟨A', c', rfl, hS⟩
 simp only [NN, reduceCtorEq] at c13
 refine Zs rfl (Zs rfl (Zs rfl (Zs rfl (Zs rfl (Zp rfl (gl_nil (hK6 _ _ (gc_cond_f rfl (gc_exit ?_)))))))))
 refine hK3 _ _ (gc_seq fun K12 hK12 => gc_region (Zp rfl (Zp rfl (gl_nil (hK12 _ _ (gc_ret (gk_ret1 rfl rfl ?_)))))))
 have hfin : rsFs l m s = (us, s1) := by
  have h2 := rsFs_snoc (l := l) (n := i) (s := s) (k := m - i) hus
  rw [show i + (m - i) = m by omega] at h2
  by_cases he : s1.e ≠ 0
  ·rw [rsFs_dead he, List.append_nil] at h2; exact h2
  have him : m - i = 0 := by omega
  rw [him] at h2
  rw [h2]
  exact congrArg (·, s1) (List.append_nil us)
 rw [hfin]
 exact ⟨A', c', rfl, hS⟩
def rsH (mm l : List UInt8) : RS := match hdV mm l with | some (x, y) => ⟨0, x, y⟩ | none => ⟨5, 0, 0⟩
def rsT (l : List UInt8) (s : RS) : RS := if s.e ≠ 0 then s else match tlV l s.a with | some (x, y) => ⟨s.a, x, y⟩ | none => s
theorem sealedAt (A : Option Addr) (c : Nat) (l : List UInt8) (j : Nat) (w : World) {ok : Nat → Prop} (h1 : RdE w ok uB A (l.take j)) (hj : j ≤ l.length) (hb : l.length ≤ 1048576) :
 Calls Tryz.prog 64 ⟨[.slice A j c]⟩ w fun e w' => ∃ A c, e = .returned (.slice A 4 c) ∧ Owns w' w.heap.size A c 5 1 4 ((le4 (crcV (l.take j))).map uB) ∧ Below w.heap.size w w' := by
 have hl : (l.take j).length = j := by rw [List.length_take]; omega
 have h := Sealed_calls A c (l.take j) w h1 (by omega)
 rw [hl] at h
 exact h
set_option maxRecDepth 100000 in
theorem rdFoot_calls {B : Nat} {w0 : World} (g : Nat) (bt : TypeId) (A : Option Addr) (c : Nat) (l : List UInt8) (s : RS) (L : List It) (w : World) (hS0 : St B w0 w (.blk g bt (rsC A l.length c s) :: L)) {ok : Nat → Prop} (hr : Rdb B w0 ok A l) (hc : l.length ≤ c) (hb : s.e = 0 → l.length ≤ 1048576) (ha : s.e = 0 → 0 ≤ s.a ∧ s.a ≤ l.length) :
 Calls Tryz.prog 35 ⟨[.pointer (some ⟨g, 0, none⟩)]⟩ w fun en w' => en = .returned (.tuple #[]) ∧ St B w0 w' (.blk g bt (rsC A l.length c (rsT l s)) :: L) := by
 obtain ⟨sa, se, si⟩ := s
 refine gc_enter (N := 75) Tryz.func35 rfl rfl rfl [(0, _)] rfl ?_
 have hS := St.start w
 have hS : St B w0 w (.blk g bt [.slice A l.length c, .int .i64 sa, .int .i64 se, .int .i64 si] :: L) := hS0
 refine gc_seq fun K1 hK1 => gc_seq fun K2 hK2 => gc_region (Zp rfl (Zp rfl (Zf 2 Tryz.underlying72 rfl el3 (Zb 0 hS rfl (Zp rfl (gl_nil (hK2 _ _ (gc_cond rfl rfl (fun c6 => ?_) (fun c6 => ?_)))))))))
 ·simp only [NN, reduceCtorEq] at c6
  refine gc_ret ?_
  simp only [XR]
  refine gk_ret0 rfl ?_
  refine ⟨rfl, ?_⟩
  unfold rsT
  rw [if_pos (by simp only; omega)]
  exact hS
 simp only [NN, reduceCtorEq] at c6
 have hse : se = 0 := by omega
 subst hse
 have hb : l.length ≤ 1048576 := hb rfl
 obtain ⟨ha0, ha1⟩ := ha rfl
 simp only at ha0 ha1
 obtain ⟨j, rfl⟩ : ∃ j : Nat, sa = (j : Int) := ⟨sa.toNat, by omega⟩
 have hS : St B w0 _ (.blk g bt [.slice A l.length c, .int .i64 j, .int .i64 0, .int .i64 si] :: L) := hS
 have hT0 : rsT l ⟨j, 0, si⟩ = match tlV l j with | some (x, y) => ⟨j, x, y⟩ | none => ⟨j, 0, si⟩ := rfl
 refine gc_skip (hK1 _ _ (gc_seq fun K3 hK3 => gc_seq fun K4 hK4 => gc_anyS hS (by kernel_rfl) rfl fun nq1 hK => ?_))
 have hS := hS.dr nq1
 refine Yp 0 rfl (by kernel_rfl) (fun _ _ _ _ h => h) hK ?_
 refine Yp 1 rfl (by kernel_rfl) (fun _ _ _ _ h => h) hK ?_
 refine Yf 2 0 Tryz.underlying72 rfl el22 (by kernel_rfl) (fun _ _ _ _ h => h) hK ?_
 refine Yb 3 0 rfl (by kernel_rfl) (fun _ _ _ _ h => h) hK ?_
 refine Yp 4 rfl (by kernel_rfl) (fun _ _ _ _ h => h) hK ?_
 refine Yp 5 rfl (by kernel_rfl) (fun _ _ _ _ h => h) hK ?_
 refine Yp 6 rfl (by kernel_rfl) (fun _ _ _ _ h => h) hK ?_
 refine Yf 7 1 Tryz.underlying72 rfl el3 (by kernel_rfl) (fun _ _ _ _ h => h) hK ?_
 refine Yb 8 0 rfl (by kernel_rfl) (fun _ _ _ _ h => h) hK ?_
 refine Yi 9 rfl (by omega) (by kernel_rfl) (fun _ _ _ _ h => h) hK ?_
 refine Yp 10 rfl (by kernel_rfl) (fun _ _ _ _ h => h) hK ?_
 refine ga_done (by kernel_rfl) ?_
 refine hK4 _ _ (gc_cond rfl rfl (fun c17 => ?_) (fun c17 => ?_))
 ·simp only [NN, reduceCtorEq] at c17
  refine gc_seq fun K5 hK5 => gc_region (Zp rfl (Zp rfl (Zp rfl (Zf 1 Tryz.underlying72 rfl el3 (Zb 0 hS rfl (gl_callf rfl rfl rfl rfl Tryz.func30 rfl rfl rfl (rdFail_calls g bt A l.length c ⟨j, 0, si⟩ (10) (j) _ _ hS) ?_))))))
  rintro _ w23 ⟨rfl, hS⟩
  refine ⟨_, rfl, ?_⟩
  refine gl_nil (hK5 _ _ (gc_ret ?_))
  simp only [XR]
  refine gk_ret0 rfl ?_
  refine ⟨rfl, ?_⟩
  rw [hT0, show tlV l j = some (10, (j : Int)) by unfold tlV; rw [if_pos (by omega)]]
  exact hS
 simp only [NN, reduceCtorEq] at c17
 refine gc_skip (hK3 _ _ (gc_seq fun K6 hK6 => gc_seq fun K7 hK7 => gc_anyS hS (by kernel_rfl) rfl fun nq3 hK => ?_))
 have hS := hS.dr nq3
 refine Yp 0 rfl (by kernel_rfl) (fun _ _ _ _ h => h) hK ?_
 refine Yp 1 rfl (by kernel_rfl) (fun _ _ _ _ h => h) hK ?_
 refine Yf 2 0 Tryz.underlying72 rfl el22 (by kernel_rfl) (fun _ _ _ _ h => h) hK ?_
 refine Yb 3 0 rfl (by kernel_rfl) (fun _ _ _ _ h => h) hK ?_
 refine Yp 4 rfl (by kernel_rfl) (fun _ _ _ _ h => h) hK ?_
 refine Yp 5 rfl (by kernel_rfl) (fun _ _ _ _ h => h) hK ?_
 refine Yf 6 1 Tryz.underlying72 rfl el3 (by kernel_rfl) (fun _ _ _ _ h => h) hK ?_
 refine Yb 7 0 rfl (by kernel_rfl) (fun _ _ _ _ h => h) hK ?_
 refine ga_take 8 rfl rfl rfl rfl (by kernel_rfl) (fun _ _ _ _ h => h) hK (fun w1 hS => op_slice_h hT el5 rfl rfl rfl rfl (by first | omega | (simp; omega)) (by first | omega | (simp; omega))) ?_
 refine Yp 11 rfl (by kernel_rfl) (fun _ _ _ _ h => h) hK ?_
 refine Yp 12 rfl (by kernel_rfl) (fun _ _ _ _ h => h) hK ?_
 refine Yf 13 0 Tryz.underlying72 rfl el22 (by kernel_rfl) (fun _ _ _ _ h => h) hK ?_
 refine Yb 14 0 rfl (by kernel_rfl) (fun _ _ _ _ h => h) hK ?_
 refine Yp 15 rfl (by kernel_rfl) (fun _ _ _ _ h => h) hK ?_
 refine Yp 16 rfl (by kernel_rfl) (fun _ _ _ _ h => h) hK ?_
 refine Yf 17 1 Tryz.underlying72 rfl el3 (by kernel_rfl) (fun _ _ _ _ h => h) hK ?_
 refine Yb 18 0 rfl (by kernel_rfl) (fun _ _ _ _ h => h) hK ?_
 refine Yp 19 rfl (by kernel_rfl) (fun _ _ _ _ h => h) hK ?_
 refine Yp 20 rfl (by kernel_rfl) (fun _ _ _ _ h => h) hK ?_
 refine Yf 21 1 Tryz.underlying72 rfl el3 (by kernel_rfl) (fun _ _ _ _ h => h) hK ?_
 refine Yb 22 0 rfl (by kernel_rfl) (fun _ _ _ _ h => h) hK ?_
 refine Yi 23 rfl (by omega) (by kernel_rfl) (fun _ _ _ _ h => h) hK ?_
 refine ga_take 24 rfl rfl rfl rfl (by kernel_rfl) (fun _ _ _ _ h => h) hK (fun w1 hS => op_slice_lh hT el5 rfl rfl rfl rfl rfl (by first | omega | (simp; omega)) (by first | omega | (simp; omega)) (by first | omega | (simp; omega))) ?_
 refine ga_take 25 rfl rfl rfl rfl (by kernel_rfl) (fun _ _ _ _ h => h) hK (fun w1 hS => op_b2s hT (((hr hS).drop (k := j) (cap := c) (by omega) hc).take 4) rfl rfl rfl rfl rfl (by rw [List.length_take, List.length_drop]; omega)) ?_
 refine ga_one 9 (by kernel_rfl) rfl ?_
 refine gl_callf rfl rfl rfl rfl Tryz.func64 rfl rfl rfl (sealedAt A c l j _ ((hr hS).take j) (by omega) (by omega)) ?_
 rintro _ w33 ⟨A33, c33, rfl, hr33, hb33⟩
 refine ⟨_, rfl, ?_⟩
 have hS := hS.addRow hb33 hr33
 have hS := hS.moveIn 1
 refine gl_nil (ga_next (hS.erase 1) fun hK => ?_)
 refine ga_one 10 (by kernel_rfl) rfl ?_
 refine gl_op rfl rfl rfl (op_b2s hT (hS.rdE (i := 1) rfl) rfl rfl rfl rfl rfl (by rfl)) ?_
 refine gl_nil (ga_next (hS.erase 1) fun hK => ?_)
 refine Yp 26 rfl (by kernel_rfl) (fun _ _ _ _ h => h) hK ?_
 refine ga_done (by kernel_rfl) ?_
 refine hK7 _ _ (gc_cond rfl rfl (fun c50 => ?_) (fun c50 => ?_))
 ·simp only [NN, reduceCtorEq] at c50
  refine gc_seq fun K8 hK8 => gc_region (Zp rfl (Zp rfl (Zp rfl (Zf 1 Tryz.underlying72 rfl el3 (Zb 0 hS rfl (gl_callf rfl rfl rfl rfl Tryz.func30 rfl rfl rfl (rdFail_calls g bt A l.length c ⟨j, 0, si⟩ (16) (j) _ _ hS) ?_))))))
  rintro _ w56 ⟨rfl, hS⟩
  refine ⟨_, rfl, ?_⟩
  refine gl_nil (hK8 _ _ (gc_ret ?_))
  simp only [XR]
  refine gk_ret0 rfl ?_
  refine ⟨rfl, ?_⟩
  rw [hT0, show tlV l j = some (16, (j : Int)) by unfold tlV; rw [if_neg (by omega), if_pos (fun h => c50 (by rw [Int.toNat_natCast] at h; rw [h]))]]
  exact hS.erase 1
 simp only [NN, reduceCtorEq] at c50
 have htl : le4 (crcV (l.take ((j : Int)).toNat)) = (l.drop ((j : Int)).toNat).take 4 := by rw [Int.toNat_natCast]; exact strB_inj c50
 refine gc_skip (hK6 _ _ (gc_seq fun K9 hK9 => gc_anyS hS (by kernel_rfl) rfl fun nq5 hK => ?_))
 have hS := hS.dr nq5
 refine Yp 0 rfl (by kernel_rfl) (fun _ _ _ _ h => h) hK ?_
 refine Yp 1 rfl (by kernel_rfl) (fun _ _ _ _ h => h) hK ?_
 refine Yf 2 0 Tryz.underlying72 rfl el22 (by kernel_rfl) (fun _ _ _ _ h => h) hK ?_
 refine Yb 3 0 rfl (by kernel_rfl) (fun _ _ _ _ h => h) hK ?_
 refine Yp 4 rfl (by kernel_rfl) (fun _ _ _ _ h => h) hK ?_
 refine Yp 5 rfl (by kernel_rfl) (fun _ _ _ _ h => h) hK ?_
 refine Yp 6 rfl (by kernel_rfl) (fun _ _ _ _ h => h) hK ?_
 refine Yf 7 1 Tryz.underlying72 rfl el3 (by kernel_rfl) (fun _ _ _ _ h => h) hK ?_
 refine Yb 8 0 rfl (by kernel_rfl) (fun _ _ _ _ h => h) hK ?_
 refine Yi 9 rfl (by omega) (by kernel_rfl) (fun _ _ _ _ h => h) hK ?_
 refine Yp 10 rfl (by kernel_rfl) (fun _ _ _ _ h => h) hK ?_
 refine ga_done (by kernel_rfl) ?_
 refine hK9 _ _ (gc_cond rfl rfl (fun c67 => ?_) (fun c67 => ?_))
 ·simp only [NN, reduceCtorEq] at c67
  refine gc_region (Zp rfl (Zp rfl (Zp rfl (Zf 1 Tryz.underlying72 rfl el3 (Zb 0 hS rfl (Zi rfl (by omega) ?_))))))
  refine gl_callf rfl rfl rfl rfl Tryz.func30 rfl rfl rfl (rdFail_calls g bt A l.length c ⟨j, 0, si⟩ (82) (j + 4) _ _ hS) ?_
  rintro _ w74 ⟨rfl, hS⟩
  refine ⟨_, rfl, ?_⟩
  refine gl_nil (gk_end0 rfl ?_)
  refine ⟨rfl, ?_⟩
  rw [hT0, show tlV l j = some (82, (j : Int) + 4) by unfold tlV; rw [if_neg (by omega), if_neg (fun h => h htl), if_pos (by omega)]]; exact hS.erase 1
 simp only [NN, reduceCtorEq] at c67
 refine gc_skip (gk_end0 rfl ?_)
 refine ⟨rfl, ?_⟩
 rw [hT0, show tlV l j = none by unfold tlV; rw [if_neg (by omega), if_neg (fun h => h htl), if_neg (by omega)]]; exact hS.erase 1
end Go.Proofs.YtnomlloaahoceaaGreatDoor

/- Contracts of package ambitref8: the form of a question. No condition. -/
namespace Go.Proofs.YtnomlloaahoceaaGreatDoor
open Go.RowKit
set_option linter.unusedVariables false
set_option linter.unusedSimpArgs false
end Go.Proofs.YtnomlloaahoceaaGreatDoor

/- Contracts of package code: a question read from bytes. No condition. -/
namespace Go.Proofs.YtnomlloaahoceaaGreatDoor
open Go.RowKit
set_option linter.unusedVariables false
set_option linter.unusedSimpArgs false
/-! ### what is told -/
def dpTail (l : List UInt8) (p : Px) (tgt at_ : Int) : Ex Px :=
 if (formV p).1 ≠ 0 then .error ((formV p).1, tgt) else match tlV l at_ with | some x => .error x | none => .ok p
def dpNums (l : List UInt8) (p : Px) (tgt at_ : Int) : Ex Px :=
 match rU l at_ with | .error x => .error x | .ok (k, a) => match rU l a with | .error x => .error x | .ok (d, b) => match rU l b with | .error x => .error x | .ok (s, c) => dpTail l ⟨p.C, p.G, p.T, p.M, k, d, s⟩ tgt c
def dpClaims (l : List UInt8) (p : Px) (tgt : Int) : Nat → List (List Nat) → Int → Ex Px
 | 0, M, at_ => dpNums l ⟨p.C, p.G, p.T, M, p.K, p.D, p.S⟩ tgt at_
 | k + 1, M, at_ => match rU l at_ with
  | .error x => .error x
  | .ok (m, a) => if m < 2 ∨ 257 < m ∨ (0 < M.length ∧ m ≠ (M.getD 0 []).length) then .error (63, at_) else match rFs l m.toNat a with | .error x => .error x | .ok (us, b) => dpClaims l p tgt k (M ++ [us]) b
def dpM (l : List UInt8) (p : Px) (tgt at_ : Int) : Ex Px :=
 match rU l at_ with | .error x => .error x | .ok (c, a) => if 64 < c then .error (65, at_) else dpClaims l p tgt c.toNat [] a
def dpT (l : List UInt8) (p : Px) (at_ : Int) : Ex Px :=
 match rU l at_ with | .error x => .error x | .ok (t, a) => dpM l ⟨p.C, p.G, t - 1, p.M, p.K, p.D, p.S⟩ at_ a
def dpRows (l : List UInt8) (p : Px) : Nat → List (List Nat) → Int → Ex Px
 | 0, G, at_ => dpT l ⟨p.C, G, p.T, p.M, p.K, p.D, p.S⟩ at_
 | k + 1, G, at_ => match rFs l p.C.length at_ with | .error x => .error x | .ok (us, b) => dpRows l p k (G ++ [us]) b
def dpG (l : List UInt8) (p : Px) (at_ : Int) : Ex Px :=
 match rU l at_ with | .error x => .error x | .ok (k, a) => if 256 < k then .error (65, at_) else dpRows l p k.toNat [] a
def dpN (l : List UInt8) : Ex Px :=
 match rU l 5 with
  | .error x => .error x
  | .ok (n, a) => if n = 0 ∨ 256 < n then .error (65, 5) else match rFs l n.toNat a with | .error x => .error x | .ok (C, b) => dpG l ⟨C, [], 0, [], 0, 0, 0⟩ b
def decPropV (l : List UInt8) : Ex Px :=
 match hdV [65, 77, 66, 80] l with
 | some x => .error x
 | none => dpN l
section
variable {l : List UInt8} {p : Px} {x : Int × Int} {tgt at_ a b v : Int} {n k : Nat} {us : List Nat} {M G : List (List Nat)}
theorem decPropV_h (h : hdV [65, 77, 66, 80] l = some x) : decPropV l = .error x := by unfold decPropV; rw [h]
theorem decPropV_0 (h : hdV [65, 77, 66, 80] l = none) : decPropV l = dpN l := by unfold decPropV; rw [h]
theorem dpN_e (h : rU l 5 = .error x) : dpN l = .error x := by unfold dpN; rw [h]
theorem dpN_b (h : rU l 5 = .ok (v, a)) (hb : v = 0 ∨ 256 < v) : dpN l = .error (65, 5) := by unfold dpN; rw [h]; exact if_pos hb
theorem dpN_f (h : rU l 5 = .ok ((n : Int), a)) (hb : ¬ ((n : Int) = 0 ∨ 256 < (n : Int))) (h2 : rFs l n a = .error x) : dpN l = .error x := by unfold dpN; rw [h]; refine (if_neg hb).trans ?_; rw [Int.toNat_natCast, h2]
theorem dpN_0 (h : rU l 5 = .ok ((n : Int), a)) (hb : ¬ ((n : Int) = 0 ∨ 256 < (n : Int))) (h2 : rFs l n a = .ok (us, b)) : dpN l = dpG l ⟨us, [], 0, [], 0, 0, 0⟩ b := by unfold dpN; rw [h]; refine (if_neg hb).trans ?_; rw [Int.toNat_natCast, h2]
theorem dpGx_e (h : rU l at_ = .error x) : dpG l p at_ = .error x := by unfold dpG; rw [h]
theorem dpGx_b (h : rU l at_ = .ok (v, a)) (hb : 256 < v) : dpG l p at_ = .error (65, at_) := by unfold dpG; rw [h]; exact if_pos hb
theorem dpGx_0 (h : rU l at_ = .ok ((k : Int), a)) (hb : ¬ 256 < (k : Int)) : dpG l p at_ = dpRows l p k [] a := by unfold dpG; rw [h]; refine (if_neg hb).trans ?_; rw [Int.toNat_natCast]
theorem dpRows_e (hn : n = k + 1) (h : rFs l p.C.length at_ = .error x) : dpRows l p n G at_ = .error x := by subst hn; unfold dpRows; rw [h]
theorem dpRows_s (hn : n = k + 1) (h : rFs l p.C.length at_ = .ok (us, b)) : dpRows l p n G at_ = dpRows l p k (G ++ [us]) b := by
 subst hn
 show (match rFs l p.C.length at_ with | .error x => Except.error x | .ok (us, b) => dpRows l p k (G ++ [us]) b) = _
 rw [h]
theorem dpT_e (h : rU l at_ = .error x) : dpT l p at_ = .error x := by unfold dpT; rw [h]
theorem dpT_0 (h : rU l at_ = .ok (v, a)) : dpT l p at_ = dpM l ⟨p.C, p.G, v - 1, p.M, p.K, p.D, p.S⟩ at_ a := by unfold dpT; rw [h]
theorem dpM_e (h : rU l at_ = .error x) : dpM l p tgt at_ = .error x := by unfold dpM; rw [h]
theorem dpM_b (h : rU l at_ = .ok (v, a)) (hb : 64 < v) : dpM l p tgt at_ = .error (65, at_) := by unfold dpM; rw [h]; exact if_pos hb
theorem dpM_0 (h : rU l at_ = .ok ((k : Int), a)) (hb : ¬ 64 < (k : Int)) : dpM l p tgt at_ = dpClaims l p tgt k [] a := by unfold dpM; rw [h]; refine (if_neg hb).trans ?_; rw [Int.toNat_natCast]
theorem dpClaims_e (hn : n = k + 1) (h : rU l at_ = .error x) : dpClaims l p tgt n M at_ = .error x := by subst hn; unfold dpClaims; rw [h]
theorem dpClaims_b (hn : n = k + 1) (h : rU l at_ = .ok (v, a)) (hb : v < 2 ∨ 257 < v ∨ (0 < M.length ∧ v ≠ (M.getD 0 []).length)) : dpClaims l p tgt n M at_ = .error (63, at_) := by
 subst hn; unfold dpClaims; rw [h]; exact if_pos hb
theorem dpClaims_f {m : Nat} (hn : n = k + 1) (h : rU l at_ = .ok ((m : Int), a)) (hb : ¬ ((m : Int) < 2 ∨ 257 < (m : Int) ∨ (0 < M.length ∧ (m : Int) ≠ (M.getD 0 []).length))) (h2 : rFs l m a = .error x) : dpClaims l p tgt n M at_ = .error x := by
 subst hn; unfold dpClaims; rw [h]; refine (if_neg hb).trans ?_; rw [Int.toNat_natCast, h2]
theorem dpClaims_s {m : Nat} (hn : n = k + 1) (h : rU l at_ = .ok ((m : Int), a)) (hb : ¬ ((m : Int) < 2 ∨ 257 < (m : Int) ∨ (0 < M.length ∧ (m : Int) ≠ (M.getD 0 []).length))) (h2 : rFs l m a = .ok (us, b)) : dpClaims l p tgt n M at_ = dpClaims l p tgt k (M ++ [us]) b := by
 subst hn
 show (match rU l at_ with
  | .error x => Except.error x
  | .ok (m, a) => if m < 2 ∨ 257 < m ∨ (0 < M.length ∧ m ≠ (M.getD 0 []).length) then .error (63, at_) else match rFs l m.toNat a with | .error x => .error x | .ok (us, b) => dpClaims l p tgt k (M ++ [us]) b) = _
 rw [h]; refine (if_neg hb).trans ?_; rw [Int.toNat_natCast, h2]
theorem dpNums_1 (h : rU l at_ = .error x) : dpNums l p tgt at_ = .error x := by unfold dpNums; rw [h]
theorem dpNums_2 {k : Int} (h : rU l at_ = .ok (k, a)) (h2 : rU l a = .error x) : dpNums l p tgt at_ = .error x := by simp only [dpNums, h, h2]
theorem dpNums_3 {k d : Int} (h : rU l at_ = .ok (k, a)) (h2 : rU l a = .ok (d, b)) (h3 : rU l b = .error x) : dpNums l p tgt at_ = .error x := by simp only [dpNums, h, h2, h3]
theorem dpNums_0 {k d s c : Int} (h : rU l at_ = .ok (k, a)) (h2 : rU l a = .ok (d, b)) (h3 : rU l b = .ok (s, c)) : dpNums l p tgt at_ = dpTail l ⟨p.C, p.G, p.T, p.M, k, d, s⟩ tgt c := by simp only [dpNums, h, h2, h3]
theorem dpTail_b (h : (formV p).1 ≠ 0) : dpTail l p tgt at_ = .error ((formV p).1, tgt) := by unfold dpTail; exact if_pos h
theorem dpTail_t (h : ¬ (formV p).1 ≠ 0) (h2 : tlV l at_ = some x) : dpTail l p tgt at_ = .error x := by unfold dpTail; refine (if_neg h).trans ?_; rw [h2]
theorem dpTail_0 (h : ¬ (formV p).1 ≠ 0) (h2 : tlV l at_ = none) : dpTail l p tgt at_ = .ok p := by unfold dpTail; refine (if_neg h).trans ?_; rw [h2]
end
/-! ### what is put off -/
@[reducible] def dpD (g3 g4 : Nat) : List Deferred := [{ target := .fn (.func 46) #[.pointer (some ⟨g3, 0, none⟩), .pointer (some ⟨g4, 0, none⟩)], args := #[] }]
@[reducible] def zP : List Value := [.slice none 0 0, .slice none 0 0, .int .i64 0, .slice none 0 0, .int .i64 0, .int .i64 0, .int .i64 0]
@[reducible] def dpE (g2 g3 g4 : Nat) : Env := [(2, .pointer (some ⟨g2, 0, none⟩)), (3, .pointer (some ⟨g3, 0, none⟩)), (4, .pointer (some ⟨g4, 0, none⟩))]
@[reducible] def dpL (g2 g3 g4 : Nat) (zp : List Value) (x y : Int) : List It := [.blk g2 53 zp, .blk g3 32 [.int .i64 x], .blk g4 3 [.int .i64 y]]
def DpQ (R : Ending → World → Prop) (B : Nat) (w0 : World) (er : Int × Int → Prop) : Exit → Act → World → Prop
 | .panic ch, a, w => ∃ g2 g3 g4 x y it L, er (x, y) ∧ ch = pn x y ∧ Fr ⟨Tryz.f15.ntmps, dpD g3 g4⟩ a (dpE g2 g3 g4) ∧ St B w0 w (it :: dpL g2 g3 g4 zP 0 0 ++ L)
 | ex, a, w => bodyPostD Tryz.prog Tryz.f15 R ex a w
theorem Fr.unput {N : Nt} {a : Act} {e : Env} {d : Nat} {v : Value} (h : Fr N (a.put (some d) v) e) (hd : look e d = none) : Fr N a e := by
 refine ⟨h.defers, by have := h.size; simpa [Act.put] using this, fun t u hu => ?_⟩
 have h1 := h.get t u hu
 have hne : ¬ d = t := by rintro rfl; rw [hd] at hu; cases hu
 simpa [Act.put, Array.getElem?_setIfInBounds, hne] using h1
theorem dpPan {R : Ending → World → Prop} {B : Nat} {w0 : World} {er : Int × Int → Prop} {d : Nat} (hd : ∀ g2 g3 g4, look (dpE g2 g3 g4) d = none) : PanOk (DpQ R B w0 er) d := by
 rintro c a w v ⟨g2, g3, g4, x, y, it, L, h1, h2, h3, h4⟩
 exact ⟨g2, g3, g4, x, y, it, L, h1, h2, h3.unput (hd g2 g3 g4), h4⟩
theorem gk_dp {R : Ending → World → Prop} {B : Nat} {w0 w : World} {er : Int × Int → Prop} {e : Env} {g2 g3 g4 : Nat} {x y : Int} {it : It} {L : List It} (he : subEnv e (dpE g2 g3 g4)) (h1 : er (x, y)) (hS : St B w0 w (it :: dpL g2 g3 g4 zP 0 0 ++ L)) :
 GK ⟨Tryz.f15.ntmps, dpD g3 g4⟩ e (DpQ R B w0 er (.panic (pn x y))) w := fun a ha => ⟨g2, g3, g4, x, y, it, L, h1, rfl, ha.sub he, hS⟩
theorem dpQ_to {R : Ending → World → Prop} {B : Nat} {w0 : World} {er : Int × Int → Prop} (hR : ∀ x y w L, er (x, y) → St B w0 w L → R (.returned (.tuple #[.agg ⟨zP⟩, .int .i64 x, .int .i64 y])) w) :
 ∀ ex a w, DpQ R B w0 er ex a w → bodyPostD Tryz.prog Tryz.f15 R ex a w
 | .normal, a, w, h => h
 | .ret, a, w, h => h
 | .exit i, a, w, h => h
 | .goto l, a, w, h => h
 | .outgrown, a, w, h => h
 | .panic ch, a, w, h => by
  obtain ⟨g2, g3, g4, x, y, it, L, h1, rfl, h3, h4⟩ := h
  show Leaves _ _ a.tmps R a.defers (.panicking (pn x y)) w
  rw [h3.defers]
  have hp : (it :: dpL g2 g3 g4 zP 0 0 ++ L).Perm (.blk g3 32 [.int .i64 0] :: .blk g4 3 [.int .i64 0] :: .blk g2 53 zP :: it :: L) := by
   show (it :: ([_, _, _] ++ L)).Perm (([_, _, _] : List It) ++ it :: L)
   exact (List.Perm.cons it ((p_cab _ _ _).append_right L)).trans (List.perm_middle).symm
  refine leaves_cons (by simp) (by simp [go_sem]) ((catchP_calls g3 g4 x y 0 0 [] _ w (h4.permute hp)).mono ?_)
  rintro en u' w' ⟨rfl, rfl, hS⟩
  refine ⟨.tuple #[.agg ⟨zP⟩, .int .i64 x, .int .i64 y], ?_, hR x y w' _ h1 hS⟩
  have e1 : resV Tryz.prog w' (dpE g2 g3 g4) (.cell 2 53) (.agg ⟨zP⟩) := ⟨_, rfl, run_loadVarB 2 Tryz.underlying53 rfl el53 hS rfl rfl rfl⟩
  have e2 : resV Tryz.prog w' (dpE g2 g3 g4) (.cell 3 32) (.int .i64 x) := ⟨_, rfl, run_loadVar1 0 hT hS rfl rfl rfl rfl⟩
  have e3 : resV Tryz.prog w' (dpE g2 g3 g4) (.cell 4 3) (.int .i64 y) := ⟨_, rfl, run_loadVar1 1 hT hS rfl rfl rfl rfl⟩
  rw [results_eq, show Tryz.f15.results = #[.cell 2 53, .cell 3 32, .cell 4 3] from rfl]
  simp [run_resR h3 e1, run_resR h3 e2, run_resR h3 e3]
theorem gk_dpret {R : Ending → World → Prop} {B : Nat} {w0 w : World} {er : Int × Int → Prop} {e : Env} {g2 g3 g4 : Nat} {zp : List Value} {x y : Int} {it : It} {L : List It} (hz : zp.length = 7) (he : subEnv e (dpE g2 g3 g4)) (hS : St B w0 w (it :: dpL g2 g3 g4 zp x y ++ L))
 (h : R (.returned (.tuple #[.agg ⟨zp⟩, .int .i64 x, .int .i64 y])) w) :
 GK ⟨Tryz.f15.ntmps, dpD g3 g4⟩ e (DpQ R B w0 er .ret) w := fun a ha => by
 show Leaves _ _ a.tmps R a.defers .returning w
 have h3 := ha.sub he
 rw [ha.defers]
 refine leaves_cons (by simp) (by simp [go_sem]) ((catchP_idle g3 g4 w).mono ?_)
 rintro en u' w' ⟨rfl, rfl, rfl⟩
 refine ⟨.tuple #[.agg ⟨zp⟩, .int .i64 x, .int .i64 y], ?_, h⟩
 have e1 : resV Tryz.prog w' (dpE g2 g3 g4) (.cell 2 53) (.agg ⟨zp⟩) := ⟨_, rfl, run_loadVarB 1 Tryz.underlying53 rfl el53 hS rfl (by rw [List.drop_zero, List.take_of_length_le (by omega)]) hz⟩
 have e2 : resV Tryz.prog w' (dpE g2 g3 g4) (.cell 3 32) (.int .i64 x) := ⟨_, rfl, run_loadVar1 2 hT hS rfl rfl rfl rfl⟩
 have e3 : resV Tryz.prog w' (dpE g2 g3 g4) (.cell 4 3) (.int .i64 y) := ⟨_, rfl, run_loadVar1 3 hT hS rfl rfl rfl rfl⟩
 rw [results_eq, show Tryz.f15.results = #[.cell 2 53, .cell 3 32, .cell 4 3] from rfl]
 simp [run_resR h3 e1, run_resR h3 e2, run_resR h3 e3]
end Go.Proofs.YtnomlloaahoceaaGreatDoor
