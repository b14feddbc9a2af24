/- Contracts of functions that CodeNetBytes reaches, and words to say them. No condition. -/
import Derived.Test.YtnomlloaahoceaaGreatDoorZ23
import Derived.Test.YtnomlloaahoceaaGreatDoorZ22
import Derived.Test.YtnomlloaahoceaaGreatDoorZ03
/- Contracts of package ambitref8: a layer, read. No condition. -/
namespace Go.Proofs.YtnomlloaahoceaaGreatDoor
open Go.RowKit
set_option linter.unusedVariables false
set_option linter.unusedSimpArgs false
structure LyU (w : World) (ok : Nat → Prop) (x : Lx) : Prop where
 okL : x.L.ok
 rW : RdE w ok uV x.L.W.1 x.lw
 nW : x.L.W.2.1 = x.lw.length
 rB : RdE w ok uV x.L.B.1 x.lb
 nB : x.L.B.2.1 = x.lb.length
 rZ : RdS w ok pC 2 x.L.Z.1 x.lz
 nZ : x.L.Z.2.1 = x.lz.length
 rZB : RdS w ok pC 2 x.L.ZB.1 x.lzb
 nZB : x.L.ZB.2.1 = x.lzb.length
@[reducible] def zL : List Value := rlC (mkL 0 v0 0)
@[reducible] def iV8 (n : Int) : Value := .int .i64 n
theorem hasP_get (k : Int) (j : Nat) (h : j < 8) : (hasP k 8)[j]? = some (.bool (hasB k j)) := by
 match j, h with
 | 0, _ => rfl
 | 1, _ => rfl
 | 2, _ => rfl
 | 3, _ => rfl
 | 4, _ => rfl
 | 5, _ => rfl
 | 6, _ => rfl
 | 7, _ => rfl
theorem lists2 (L : Ly) (s : Sh) : (listsV L s).2 = (outV L s).2 := by
 unfold listsV
 by_cases h : (outV L s).2 ≠ 0
 ·rw [if_pos h]
 rw [if_neg h]; exact (Decidable.not_not.1 h).symm
theorem lists_bd (L : Ly) (s : Sh) : (0 ≤ (listsV L s).1.1 ∧ (listsV L s).1.1 ≤ 16777216) ∧ (0 ≤ (listsV L s).1.2.1 ∧ (listsV L s).1.2.1 ≤ 256) ∧ (0 ≤ (listsV L s).1.2.2.1 ∧ (listsV L s).1.2.2.1 ≤ 65536) ∧ (0 ≤ (listsV L s).1.2.2.2 ∧ (listsV L s).1.2.2.2 ≤ 256) := by
 by_cases h : (outV L s).2 ≠ 0
 ·have e : (listsV L s).1 = (0, 0, 0, 0) := by unfold listsV; rw [if_pos h]
  rw [e]
  decide
 have e : (listsV L s).1 = lensV L s := by unfold listsV; rw [if_neg h]
 rw [e]
 have := wsum_bd h
 omega
theorem lists_len {L : Ly} {s : Sh} (h : (outV L s).2 = 0) : (listsV L s).1 = lensV L s := by unfold listsV; rw [if_neg (fun h2 => h2 h)]
theorem len8 {v : List Int} (h : v.length = 8) : ∃ y0 y1 y2 y3 y4 y5 y6 y7, v = [y0, y1, y2, y3, y4, y5, y6, y7] := by
 match v, h with
 | [_, _, _, _, _, _, _, _], _ => exact ⟨_, _, _, _, _, _, _, _, rfl⟩
theorem dlA_f {l : List UInt8} {k : Int} {v : List Int} {Ss : List Sh} {i : Nat} {sum at0 at_ : Int} (hk : k = 4 ∨ k = 8) : dlA l k v Ss i sum at0 at_ = (match rF l at_ with | .error x => .error x | .ok (u, a) => dlOut l (mkL k v u) Ss i sum at0 a) := by unfold dlA; rw [if_pos hk]; cases rF l at_ <;> rfl
def dlSum (l : List UInt8) (L : Ly) (s : Sh) (sum at0 at_ : Int) : Ex Lyr :=
 if 65536 < sum + wsum L s then .error (65, at0) else dlLists l L (outV L s).1 (lensV L s).1.toNat (lensV L s).2.1.toNat (lensV L s).2.2.1.toNat (lensV L s).2.2.2.toNat at_
theorem rdFloatsN_calls {B : Nat} {w0 : World} (g : Nat) (bt : TypeId) (A : Option Addr) (c : Nat) (l : List UInt8) (s : RS) (m : Nat) (L : List It) (w : World) (hS0 : St B w0 w (.blk g bt (rsC A l.length c s) :: L)) {ok : Nat → Prop} (hr : Rdb B w0 ok A l) (hb : l.length ≤ 4611686018427387904) (hm : m ≤ 33554432) (hm2 : s.e = 0 → m ≤ 1048576) (ha : 0 ≤ s.a) :
 Calls Tryz.prog 57 ⟨[.pointer (some ⟨g, 0, none⟩), .int .i64 (m : Nat)]⟩ w fun en w' => ∃ A' c', en = .returned (.slice A' (rsFs l m s).1.length c') ∧ St B w0 w' (.blk g bt (rsC A l.length c (rsFs l m s).2) :: .row A' c' 77 1 (rsFs l m s).1.length ((rsFs l m s).1.map uV) :: L) := by
 have h := rdFloats_calls g bt A c l s (m : Int) L w hS0 hr hb ⟨by omega, by omega⟩ (fun h => by have := hm2 h; omega) ha
 rw [Int.toNat_natCast] at h
 exact h
set_option maxHeartbeats 16000000 in
set_option maxRecDepth 100000 in
theorem rdLayer_calls {B : Nat} {w0 : World} (g : Nat) (A As : Option Addr) (c cs : Nat) (l : List UInt8) (s : RS) (sum at0 : Int) (Ss : List Sh) (i : Nat) (L : List It) (w : World)
 (hS0 : St B w0 w (.blk g 72 (rsC A l.length c s) :: .row As cs 27 3 Ss.length (Ss.map shC).flatten :: L))
 {ok : Nat → Prop} (hr : Rdb B w0 ok A l) (hb : l.length ≤ 1048576) (he : s.e = 0) (hat : s.a = at0) (ha0 : 0 ≤ at0 ∧ at0 ≤ l.length) (hSs : Ss.length = i + 1) (hsok : ∀ x ∈ Ss, x.ok) (hi64 : i ≤ 64) (hsum : 0 ≤ sum ∧ sum ≤ 65536) :
 Calls Tryz.prog 31 ⟨[.pointer (some ⟨g, 0, none⟩), .slice As Ss.length cs, .int .i64 sum]⟩ w fun en w' => ∃ (s' : RS) (L' : Ly) (K : Nat → Prop) (wk : World), en = .returned (.agg ⟨rlC L'⟩) ∧ 0 ≤ s'.a ∧
  ((s'.e ≠ 0 ∧ dnLy l Ss i sum at0 = .error (s'.e, s'.i)) ∨ (s'.e = 0 ∧ s'.a ≤ l.length ∧ ∃ x o, dnLy l Ss i sum at0 = .ok (x, o, s'.a) ∧ LyU wk K ⟨L', x.lw, x.lb, x.lz, x.lzb⟩ ∧ bare L' = x.L ∧ outV x.L (Ss.getD i zSh) = (o, 0) ∧ o.ok ∧ sizeV o = (o.c * o.h * o.w, 0) ∧ 0 ≤ wtsV x ∧ sum + wtsV x ≤ 65536)) ∧
  St B w0 w' (.blk g 72 (rsC A l.length c s') :: .row As cs 27 3 Ss.length (Ss.map shC).flatten :: .keep K wk :: L) := by
 obtain ⟨ad, rfl⟩ : ∃ ad, As = some ad := by
  obtain ⟨ad, h, _⟩ := (hS0.rd (i := 1) rfl).2 (by omega)
  exact ⟨ad, h⟩
 obtain ⟨s_, hs⟩ : ∃ x, Ss[i]? = some x := ⟨_, List.getElem?_eq_getElem (by omega)⟩
 have hsg : Ss.getD i zSh = s_ := by rw [List.getD_eq_getElem?_getD, hs]; rfl
 have hso := hsok s_ (List.mem_of_getElem? hs)
 obtain ⟨sa, se, si⟩ := s
 simp only at he hat
 subst he
 subst hat
 have hLv0 : LvG (dnLy l Ss i sum sa) ⟨sa, 0, si⟩ (match rU l sa with | .error x => .error x | .ok (k, a) => dlV l k Ss i sum sa (fidx k) v0 a) := ⟨fun _ => rfl, fun h => absurd rfl h⟩
 refine gc_enter (N := 172) Tryz.func31 rfl rfl rfl [(0, _), (1, _), (2, _)] rfl ?_
 have hS := St.start w
 have hS := hS0
 refine gc_seq fun K1 hK1 => gc_region (gl_alloc el81 hS rfl rfl rfl rfl fun g6 w6 hS => ?_)
 have hS := hS.moveIn 2
 refine gl_nil (hK1 _ _ (gc_seq fun K2 hK2 => gc_region (Zp rfl (Zp rfl (Zf 1 Tryz.underlying72 rfl el3 (Zb 0 hS rfl (Zp rfl (gl_nil (hK2 _ _ (gc_seq fun K3 hK3 => gc_region (Zp rfl (gl_callf rfl rfl rfl rfl Tryz.func28 rfl rfl rfl (rdUint_calls g _ A c l ⟨sa, 0, si⟩ _ _ hS hr (by omega)) ?_))))))))))))
 rintro _ w22 ⟨rfl, hS⟩
 refine ⟨_, rfl, ?_⟩
 have hU := rsU_ok l ⟨sa, 0, si⟩
 have hL := lvgU (f := fun k a => dlV l k Ss i sum sa (fidx k) v0 a) hLv0
 generalize rsU l ⟨sa, 0, si⟩ = q at hS hL hU ⊢
 obtain ⟨k, s1⟩ := q
 simp only at hS hL hU ⊢
 rw [← fromI_0] at hL
 have hk64 : i64 k := ⟨by omega, by omega⟩
 refine gl_op rfl rfl rfl (op_buildG rfl plan81 rfl rfl) ?_
 refine gl_alloc el81 hS rfl rfl rfl rfl fun g8 w8 hS => ?_
 have hS := hS.moveIn 3
 refine gl_storeM 3 hS el81 rfl rfl rfl rfl rfl rfl rfl rfl rfl fun w_184 hS => ?_
 refine gl_nil (hK3 _ _ (gc_seq fun K4 hK4 => gc_region (Zf 0 Tryz.underlying81 rfl el3 (Zb 3 hS rfl (gl_callf rfl rfl rfl rfl Tryz.func56 rfl rfl rfl (has_calls k _) ?_)))))
 rintro _ w27 ⟨rfl, hb27⟩
 refine ⟨_, rfl, ?_⟩
 have hS := hS.grown hb27
 refine Zp rfl (Zp rfl (Zp rfl (gl_alloc el117 hS rfl rfl rfl rfl fun g9 w9 hS => ?_)))
 have hS := hS.moveIn 4
 refine gl_storeM 4 hS el117 rfl rfl rfl rfl rfl rfl rfl rfl rfl fun w_185 hS => ?_
 refine Zp rfl (gl_nil (hK4 _ _ (gc_cut (fun a' w' => ∃ g6 g8 g9 g11, Fr 172 a' [(0, .pointer (some ⟨g, 0, none⟩)), (1, .slice (some ad) Ss.length cs), (2, .int .i64 sum), (6, .pointer (some ⟨g6, 0, none⟩)), (7, .int .i64 sa), (8, .pointer (some ⟨g8, 0, none⟩)), (9, .pointer (some ⟨g9, 0, none⟩)), (10, .bool (decide (k = 4 ∨ k = 8))), (11, .pointer (some ⟨g11, 0, none⟩))] ∧ St B w0 w' (.blk g 72 (rsC A l.length c (s1)) :: .row (some ad) cs 27 3 Ss.length (Ss.map shC).flatten :: .blk g6 81 zL :: .blk g8 81 (rlC (mkL k v0 0)) :: .blk g9 117 (hasP k 8) :: .blk g11 120 (v0.map iV8) :: L)) ?_ ?_)))
 ·refine gc_region (gl_alloc el120 hS rfl rfl rfl rfl fun g11 w11 hS => ?_)
  have hS := hS.moveIn 5
  refine gl_nil ?_
  intro a' ha
  exact ⟨g6, g8, g9, g11, ha.sub ⟨rfl, rfl, rfl, rfl, rfl, rfl, rfl, rfl, rfl, trivial⟩, hS⟩
 rintro a' w1 ⟨g6, g8, g9, g11, hF, hS⟩
 refine gc_of hF ?_
 clear hF
 refine gc_seq fun K5 hK5 => gc_seq fun K6 hK6 => gc_region (Zp rfl (gl_nil (hK6 _ _ (gc_block (gc_loop (fun kk a' w' => ∃ (j : Nat) (v : List Int) (s : RS), Fr 172 a' [(0, .pointer (some ⟨g, 0, none⟩)), (1, .slice (some ad) Ss.length cs), (2, .int .i64 sum), (6, .pointer (some ⟨g6, 0, none⟩)), (7, .int .i64 sa), (8, .pointer (some ⟨g8, 0, none⟩)), (9, .pointer (some ⟨g9, 0, none⟩)), (10, .bool (decide (k = 4 ∨ k = 8))), (11, .pointer (some ⟨g11, 0, none⟩)), (12, .int .i64 (j : Nat))] ∧ j ≤ 8 ∧ kk = 9 - j ∧ v.length = 8 ∧ (∀ y ∈ v, i64 y) ∧ 0 ≤ s.a ∧ (s.e = 0 → s.a ≤ l.length) ∧ LvG (dnLy l Ss i sum sa) s (dlV l k Ss i sum sa (fromI k j) v s.a) ∧ St B w0 w' (.blk g 72 (rsC A l.length c (s)) :: .row (some ad) cs 27 3 Ss.length (Ss.map shC).flatten :: .blk g6 81 zL :: .blk g8 81 (rlC (mkL k v0 0)) :: .blk g9 117 (hasP k 8) :: .blk g11 120 (v.map iV8) :: L)) 9 ?_ ?_ ?_)))))
 ·intro a' ha; exact ⟨0, v0, s1, ha.sub ⟨rfl, rfl, rfl, rfl, rfl, rfl, rfl, rfl, rfl, rfl, trivial⟩, by omega, by omega, rfl, by decide, hU.2.2.2 ha0.1, fun h => (hU.2.2.1 h).2.2, hL, hS⟩
 ·rintro a' w' ⟨j, _, _, _, h1, h2, _⟩; omega
 clear hS hL hU hLv0
 rintro kk a' w1 ⟨j, v, s, hF, hj8, hkk, hv8, hvo, hsa, hsl, hL, hS⟩
 refine gc_of hF ?_
 clear hF
 refine gc_seq fun K7 hK7 => gc_seq fun K8 hK8 => gc_region (Zp rfl (Zp rfl (gl_nil (hK8 _ _ (gc_cond rfl rfl (fun c31 => ?_) (fun c31 => ?_))))))
 ·simp only [NN, reduceCtorEq] at c31
  refine gc_skip (hK7 _ _ (gc_seq fun K9 hK9 => gc_block (gc_seq fun K10 hK10 => gc_region (Zp rfl ?_))))
  have hj : j < 8 := by omega
  have hst := fromI_step k j hj
  refine gl_op rfl rfl rfl (op_ixA (j0 := 0) (j := j) rfl Tryz.underlying117 el4 rfl rfl (by omega) (by omega) (by omega)) ?_
  refine gl_op rfl rfl rfl (op_loadB 4 hT hS rfl rfl rfl rfl rfl (hasP_get k j hj)) ?_
  refine gl_nil (hK10 _ _ (gc_cond rfl rfl (fun c36 => ?_) (fun c36 => ?_)))
  ·refine gc_region (Zp rfl (Zp rfl (gl_callf rfl rfl rfl rfl Tryz.func28 rfl rfl rfl (rdUint_calls g _ A c l s _ _ hS hr (by omega)) ?_)))
   rintro _ w39 ⟨rfl, hS⟩
   refine ⟨_, rfl, ?_⟩
   have hU := rsU_ok l s
   have hL := lvgU (f := fun n a => dlV l k Ss i sum sa (fromI k (j + 1)) (v.set j n) a) (by rw [hst.1 c36] at hL; exact hL)
   generalize rsU l s = q at hS hL hU ⊢
   obtain ⟨n, s2⟩ := q
   simp only at hS hL hU ⊢
   refine gl_op rfl rfl rfl (op_ixA (j0 := 0) (j := j) rfl Tryz.underlying120 el3 rfl rfl (by omega) (by omega) (by omega)) ?_
   refine gl_store 5 hS el3.cellsOf.1 el3.cellsOf.2 rfl rfl rfl rfl rfl rfl (Nat.ble_eq_true_of_le (by rw [List.length_map, hv8]; omega)) rfl fun ws40 hS => ?_
   refine gl_nil (hK9 _ _ (gc_region (Zp rfl (Zi rfl (by omega) ?_))))
   refine Zp rfl (gl_nil ?_)
   intro a' ha
   refine ⟨j + 1, v.set j n, s2, ha.sub ⟨rfl, rfl, rfl, rfl, rfl, rfl, rfl, rfl, rfl, rfl, trivial⟩, by omega, by omega, by rw [List.length_set, hv8], fun y hy => ?_, hU.2.2.2 hsa, fun h => (hU.2.2.1 h).2.2, hL, ?_⟩
   ·rcases List.mem_or_eq_of_mem_set hy with hy | rfl
    ·exact hvo y hy
    exact ⟨by omega, by omega⟩
   rw [List.map_set]
   exact hS
  refine gc_skip (hK9 _ _ (gc_region (Zp rfl (Zi rfl (by omega) ?_))))
  refine Zp rfl (gl_nil ?_)
  intro a' ha
  exact ⟨j + 1, v, s, ha.sub ⟨rfl, rfl, rfl, rfl, rfl, rfl, rfl, rfl, rfl, rfl, trivial⟩, by omega, by omega, hv8, hvo, hsa, hsl, by rw [hst.2 c36] at hL; exact hL, hS⟩
 simp only [NN, reduceCtorEq] at c31
 have hj8' : j = 8 := by omega
 subst hj8'
 rw [fromI_8] at hL
 have hL : LvG (dnLy l Ss i sum sa) s (dlA l k v Ss i sum sa s.a) := hL
 obtain ⟨y0, y1, y2, y3, y4, y5, y6, y7, rfl⟩ := len8 hv8
 refine gc_exit ?_
 refine hK5 _ _ (gc_cut (fun a' w' => ∃ (v : List Int) (s : RS), Fr 172 a' [(0, .pointer (some ⟨g, 0, none⟩)), (1, .slice (some ad) Ss.length cs), (2, .int .i64 sum), (6, .pointer (some ⟨g6, 0, none⟩)), (7, .int .i64 sa), (8, .pointer (some ⟨g8, 0, none⟩)), (10, .bool (decide (k = 4 ∨ k = 8)))] ∧ (∀ y ∈ v, i64 y) ∧ 0 ≤ s.a ∧ (s.e = 0 → s.a ≤ l.length) ∧ LvG (dnLy l Ss i sum sa) s (dlA l k v Ss i sum sa s.a) ∧ St B w0 w' (.blk g 72 (rsC A l.length c (s)) :: .row (some ad) cs 27 3 Ss.length (Ss.map shC).flatten :: .blk g6 81 zL :: .blk g8 81 (rlC (mkL k v 0)) :: L)) ?_ ?_)
 ·refine gc_anyS (hS.blank 3) (by kernel_rfl) rfl fun nq10 hK => ?_
  have hS := hS.dr nq10
  refine ga_take 0 rfl rfl rfl rfl (by kernel_rfl) (fun _ _ _ _ h => h) hK (fun w1 hS => op_ixA (j0 := 0) (j := 0) rfl Tryz.underlying120 el3 rfl rfl (by decide) (by decide) rfl) ?_
  refine Yb 1 5 rfl (by kernel_rfl) (fun _ _ _ _ h => h) hK ?_
  refine ga_take 2 rfl rfl rfl rfl (by kernel_rfl) (fun _ _ _ _ h => h) hK (fun w1 hS => op_ixA (j0 := 0) (j := 1) rfl Tryz.underlying120 el3 rfl rfl (by decide) (by decide) rfl) ?_
  refine Yb 3 5 rfl (by kernel_rfl) (fun _ _ _ _ h => h) hK ?_
  refine ga_take 4 rfl rfl rfl rfl (by kernel_rfl) (fun _ _ _ _ h => h) hK (fun w1 hS => op_ixA (j0 := 0) (j := 2) rfl Tryz.underlying120 el3 rfl rfl (by decide) (by decide) rfl) ?_
  refine Yb 5 5 rfl (by kernel_rfl) (fun _ _ _ _ h => h) hK ?_
  refine ga_take 6 rfl rfl rfl rfl (by kernel_rfl) (fun _ _ _ _ h => h) hK (fun w1 hS => op_ixA (j0 := 0) (j := 3) rfl Tryz.underlying120 el3 rfl rfl (by decide) (by decide) rfl) ?_
  refine Yb 7 5 rfl (by kernel_rfl) (fun _ _ _ _ h => h) hK ?_
  refine ga_take 8 rfl rfl rfl rfl (by kernel_rfl) (fun _ _ _ _ h => h) hK (fun w1 hS => op_ixA (j0 := 0) (j := 4) rfl Tryz.underlying120 el3 rfl rfl (by decide) (by decide) rfl) ?_
  refine Yb 9 5 rfl (by kernel_rfl) (fun _ _ _ _ h => h) hK ?_
  refine ga_take 10 rfl rfl rfl rfl (by kernel_rfl) (fun _ _ _ _ h => h) hK (fun w1 hS => op_ixA (j0 := 0) (j := 5) rfl Tryz.underlying120 el3 rfl rfl (by decide) (by decide) rfl) ?_
  refine Yb 11 5 rfl (by kernel_rfl) (fun _ _ _ _ h => h) hK ?_
  refine ga_take 12 rfl rfl rfl rfl (by kernel_rfl) (fun _ _ _ _ h => h) hK (fun w1 hS => op_ixA (j0 := 0) (j := 6) rfl Tryz.underlying120 el3 rfl rfl (by decide) (by decide) rfl) ?_
  refine Yb 13 5 rfl (by kernel_rfl) (fun _ _ _ _ h => h) hK ?_
  refine ga_take 14 rfl rfl rfl rfl (by kernel_rfl) (fun _ _ _ _ h => h) hK (fun w1 hS => op_ixA (j0 := 0) (j := 7) rfl Tryz.underlying120 el3 rfl rfl (by decide) (by decide) rfl) ?_
  refine Yb 15 5 rfl (by kernel_rfl) (fun _ _ _ _ h => h) hK ?_
  refine Yf 16 1 Tryz.underlying81 rfl el3 (by kernel_rfl) (fun _ _ _ _ h => h) hK ?_
  refine ga_one 17 (by kernel_rfl) rfl ?_
  refine gl_store 3 hS el3.cellsOf.1 el3.cellsOf.2 rfl rfl rfl rfl rfl rfl rfl rfl fun w_192 hS => ?_
  refine gl_nil (ga_next (hS.blank 3) fun hK => ?_)
  refine Yf 18 2 Tryz.underlying81 rfl el3 (by kernel_rfl) (fun _ _ _ _ h => h) hK ?_
  refine ga_one 19 (by kernel_rfl) rfl ?_
  refine gl_store 3 hS el3.cellsOf.1 el3.cellsOf.2 rfl rfl rfl rfl rfl rfl rfl rfl fun w_192 hS => ?_
  refine gl_nil (ga_next (hS.blank 3) fun hK => ?_)
  refine Yf 20 3 Tryz.underlying81 rfl el3 (by kernel_rfl) (fun _ _ _ _ h => h) hK ?_
  refine ga_one 21 (by kernel_rfl) rfl ?_
  refine gl_store 3 hS el3.cellsOf.1 el3.cellsOf.2 rfl rfl rfl rfl rfl rfl rfl rfl fun w_192 hS => ?_
  refine gl_nil (ga_next (hS.blank 3) fun hK => ?_)
  refine Yf 22 4 Tryz.underlying81 rfl el3 (by kernel_rfl) (fun _ _ _ _ h => h) hK ?_
  refine ga_one 23 (by kernel_rfl) rfl ?_
  refine gl_store 3 hS el3.cellsOf.1 el3.cellsOf.2 rfl rfl rfl rfl rfl rfl rfl rfl fun w_192 hS => ?_
  refine gl_nil (ga_next (hS.blank 3) fun hK => ?_)
  refine Yf 24 5 Tryz.underlying81 rfl el3 (by kernel_rfl) (fun _ _ _ _ h => h) hK ?_
  refine ga_one 25 (by kernel_rfl) rfl ?_
  refine gl_store 3 hS el3.cellsOf.1 el3.cellsOf.2 rfl rfl rfl rfl rfl rfl rfl rfl fun w_192 hS => ?_
  refine gl_nil (ga_next (hS.blank 3) fun hK => ?_)
  refine Yf 26 6 Tryz.underlying81 rfl el3 (by kernel_rfl) (fun _ _ _ _ h => h) hK ?_
  refine ga_one 27 (by kernel_rfl) rfl ?_
  refine gl_store 3 hS el3.cellsOf.1 el3.cellsOf.2 rfl rfl rfl rfl rfl rfl rfl rfl fun w_192 hS => ?_
  refine gl_nil (ga_next (hS.blank 3) fun hK => ?_)
  refine Yf 28 7 Tryz.underlying81 rfl el3 (by kernel_rfl) (fun _ _ _ _ h => h) hK ?_
  refine ga_one 29 (by kernel_rfl) rfl ?_
  refine gl_store 3 hS el3.cellsOf.1 el3.cellsOf.2 rfl rfl rfl rfl rfl rfl rfl rfl fun w_192 hS => ?_
  refine gl_nil (ga_next (hS.blank 3) fun hK => ?_)
  refine Yf 30 8 Tryz.underlying81 rfl el3 (by kernel_rfl) (fun _ _ _ _ h => h) hK ?_
  refine ga_one 31 (by kernel_rfl) rfl ?_
  refine gl_store 3 hS el3.cellsOf.1 el3.cellsOf.2 rfl rfl rfl rfl rfl rfl rfl rfl fun w_192 hS => ?_
  refine gl_nil (ga_next (hS.blank 3) fun hK => ?_)
  refine ga_done (by kernel_rfl) ?_
  intro a' ha
  exact ⟨[y0, y1, y2, y3, y4, y5, y6, y7], s, ha.sub ⟨rfl, rfl, rfl, rfl, rfl, rfl, rfl, trivial⟩, hvo, hsa, hsl, hL, (hS.erase 5).erase 4⟩
 rintro a' w1 ⟨v, s, hF, hvo, hsa, hsl, hL, hS⟩
 refine gc_of hF ?_
 clear hF
 refine gc_cut (fun a' w' => ∃ (L0 : Ly) (s : RS), Fr 172 a' [(0, .pointer (some ⟨g, 0, none⟩)), (1, .slice (some ad) Ss.length cs), (2, .int .i64 sum), (6, .pointer (some ⟨g6, 0, none⟩)), (7, .int .i64 sa), (8, .pointer (some ⟨g8, 0, none⟩))] ∧ (bare L0).ok ∧ 0 ≤ s.a ∧ (s.e = 0 → s.a ≤ l.length) ∧ LvG (dnLy l Ss i sum sa) s (dlOut l (bare L0) Ss i sum sa s.a) ∧ St B w0 w' (.blk g 72 (rsC A l.length c (s)) :: .row (some ad) cs 27 3 Ss.length (Ss.map shC).flatten :: .blk g6 81 zL :: .blk g8 81 (rlC (bare L0)) :: L)) ?_ ?_
 ·refine gc_seq fun K11 hK11 => gc_region (Zp rfl (gl_nil (hK11 _ _ (gc_cond rfl rfl (fun c65 => ?_) (fun c65 => ?_)))))
  ·simp only [NN, reduceCtorEq] at c65
   refine gc_seq fun K12 hK12 => gc_region (Zp rfl ?_)
   have hL1 : LvG (dnLy l Ss i sum sa) s (match rF l s.a with | .error x => .error x | .ok (u, a) => dlOut l (mkL k v u) Ss i sum sa a) := by rw [← dlA_f c65]; exact hL
   refine gl_callf rfl rfl rfl rfl Tryz.func57 rfl rfl rfl (rdFloats_calls g _ A c l s 1 _ _ hS hr (by omega) (by omega) (fun _ => by omega) hsa) ?_
   rintro _ w67 ⟨A67, c67, rfl, hS⟩
   refine ⟨_, rfl, ?_⟩
   have hF := rsFs_ok l 1 s
   have hM := rsFs_live l 1 s (fun h => ⟨hsa, hsl h⟩)
   have hL := lvgF1 (f := fun u a => dlOut l (mkL k v u) Ss i sum sa a) hL1
   have hS : St B w0 w67 (.blk g 72 (rsC A l.length c (rsFs l 1 s).2) :: .row A67 c67 77 1 (rsFs l 1 s).1.length ((rsFs l 1 s).1.map uV) :: _) := hS
   show GL _ _ _ ((67, .slice A67 (rsFs l 1 s).1.length c67) :: _) _ _ _
   generalize rsFs l 1 s = q at hS hL hF hM ⊢
   obtain ⟨us, s2⟩ := q
   simp only at hS hL hF hM ⊢
   have hS := hS.permute (.cons _ ((List.perm_append_comm (l₁ := [_]) (l₂ := [_, _, _])).append_right _))
   refine Zp rfl (gl_nil (hK12 _ _ (gc_seq fun K13 hK13 => gc_region (Zp rfl (Zp rfl (Zp rfl (gl_nil (hK13 _ _ (gc_cond rfl rfl (fun c70 => ?_) (fun c70 => ?_))))))))))
   ·simp only [NN, reduceCtorEq] at c70
    refine gc_region (Zp rfl ?_)
    obtain ⟨u0, ur, rfl⟩ : ∃ u0 ur, us = u0 :: ur := by
     cases us with
     | nil => exact absurd c70 (by simp)
     | cons u0 ur => exact ⟨u0, ur, rfl⟩
    obtain ⟨ad9, hA9, hc9⟩ := (hS.rdE (l := u0 :: ur) (i := 4) rfl).at 0 (i := (0 : Int)) (by omega) (by simp)
    refine gl_op rfl rfl rfl (op_indexAddr hT rfl rfl el77.cellsOf.1 el77.cellsOf.2 rfl rfl (by omega) (by simp) hA9) ?_
    refine gl_op rfl rfl rfl (op_load hT rfl rfl rfl rfl hc9) ?_
    refine Zf 9 Tryz.underlying81 rfl el77 (gl_store 3 hS el77.cellsOf.1 el77.cellsOf.2 rfl rfl rfl rfl rfl rfl rfl rfl fun w_196 hS => ?_)
    refine gl_nil ?_
    intro a' ha
    exact ⟨mkL k v u0, s2, ha.sub ⟨rfl, rfl, rfl, rfl, rfl, rfl, trivial⟩, mkL_ok hk64 hvo (hF.2.1 u0 (.head _)), hF.2.2.1 hsa, fun h => (hM h).2.2, hL, hS.erase 4⟩
   simp only [NN, reduceCtorEq] at c70
   refine gc_skip ?_
   intro a' ha
   exact ⟨mkL k v 0, s2, ha.sub ⟨rfl, rfl, rfl, rfl, rfl, rfl, trivial⟩, mkL_ok hk64 hvo (show 0 < 18446744073709551616 by decide), hF.2.2.1 hsa, fun h => (hM h).2.2, by
    cases us with
    | nil => exact hL
    | cons u0 ur => exact absurd c70 (by simp), hS.erase 4⟩
  simp only [NN, reduceCtorEq] at c65
  refine gc_skip ?_
  intro a' ha
  exact ⟨mkL k v 0, s, ha.sub ⟨rfl, rfl, rfl, rfl, rfl, rfl, trivial⟩, mkL_ok hk64 hvo (show 0 < 18446744073709551616 by decide), hsa, hsl, by rw [← dlA_0 c65]; exact hL, hS⟩
 clear hvo
 rintro a' w1 ⟨L0, s, hF, hok, hsa, hsl, hL, hS⟩
 refine gc_of hF ?_
 clear hF
 refine gc_seq fun K14 hK14 => gc_seq fun K15 hK15 => gc_region (Zp rfl (Zp rfl (Zf 2 Tryz.underlying72 rfl el3 (Zb 0 hS rfl (Zp rfl (gl_nil (hK15 _ _ (gc_cond rfl rfl (fun c79 => ?_) (fun c79 => ?_)))))))))
 ·simp only [NN, reduceCtorEq] at c79
  refine gc_seq fun K16 hK16 => gc_region (Zg 3 Tryz.underlying81 el81 hS rfl (gl_storeM 2 hS el81 rfl rfl rfl rfl rfl rfl rfl rfl rfl fun w_200 hS => ?_))
  refine gl_nil (hK16 _ _ (gc_ret ?_))
  simp only [XR]
  refine gk_res1 rfl (⟨_, rfl, run_loadVarB 2 Tryz.underlying81 rfl el81 hS rfl rfl rfl⟩) ?_
  refine ⟨s, bare L0, _, _, rfl, hsa, .inl ⟨by omega, hL.2 (by omega)⟩, St.keepFront (L1 := [_, _]) (L2 := [_, _]) hS⟩
 simp only [NN, reduceCtorEq] at c79
 have hse : s.e = 0 := by omega
 have hlb := lists_bd (bare L0) s_
 have hl2 := lists2 (bare L0) s_
 have hD := hL.1 hse
 have hfr : L0.k = 5 → (listsV (bare L0) s_).2 = 0 → 0 ≤ L0.fr ∧ L0.fr ≤ 64 := fun h h0 => by
  obtain ⟨hf0, _⟩ := outV_ok (by omega : (outV (bare L0) s_).2 = 0)
  obtain ⟨_, _, hfo⟩ := fv_zero hf0
  have := hfo.2.2
  rw [if_pos (show (bare L0).k = 5 from h)] at this
  exact this
 refine gc_skip (hK14 _ _ (gc_seq fun K17 hK17 => gc_region (Zp rfl (Zp rfl (Zp rfl (Zi rfl (by omega) ?_))))))
 refine gl_spell 84 (v := .int .i64 (i : Nat)) rfl (congrArg (Value.int .i64) (by omega)) ?_
 refine gl_op rfl rfl rfl (op_indexAddr hT rfl rfl el27.cellsOf.1 el27.cellsOf.2 rfl rfl (by omega) (by omega) rfl) ?_
 refine gl_spell 85 (v := .pointer (some (ad.add (i * 3)))) rfl (by rw [Int.toNat_natCast]) ?_
 refine gl_op rfl rfl rfl (op_loadS Tryz.underlying27 rfl el27 rfl rfl (exSh (l := Ss) (i := i) hS rfl hs) rfl) ?_
 refine gl_alloc el27 hS rfl rfl rfl rfl fun g14 w14 hS => ?_
 have hS := hS.moveIn 4
 refine gl_storeM 4 hS el27 rfl rfl rfl rfl rfl rfl rfl rfl rfl fun w_202 hS => ?_
 refine gl_nil (hK17 _ _ (gc_seq fun K18 hK18 => gc_region (Zg 3 Tryz.underlying81 el81 hS rfl (Zg 4 Tryz.underlying27 el27 hS rfl (gl_callf rfl rfl rfl rfl Tryz.func58 rfl rfl rfl (fListsW_calls (bare L0) s_ _ hok hso) ?_)))))
 rintro _ w90 ⟨rfl, hb90⟩
 refine ⟨_, rfl, ?_⟩
 have hS := hS.grown hb90
 refine Zp rfl (Zp rfl (Zp rfl (gl_alloc el122 hS rfl rfl rfl rfl fun g15 w15 hS => ?_)))
 have hS := hS.moveIn 5
 refine gl_storeM 5 hS el122 rfl rfl rfl rfl rfl rfl rfl rfl rfl fun w_203 hS => ?_
 refine Zp rfl (gl_nil (hK18 _ _ (gc_cut (fun a' w' => ∃ (g14 g15 : Nat), Fr 172 a' [(0, .pointer (some ⟨g, 0, none⟩)), (1, .slice (some ad) Ss.length cs), (2, .int .i64 sum), (6, .pointer (some ⟨g6, 0, none⟩)), (7, .int .i64 sa), (8, .pointer (some ⟨g8, 0, none⟩)), (14, .pointer (some ⟨g14, 0, none⟩)), (15, .pointer (some ⟨g15, 0, none⟩)), (16, .int .i64 (listsV (bare L0) s_).2)] ∧ St B w0 w' (.blk g 72 (rsC A l.length c (s.fl (listsV (bare L0) s_).2 sa)) :: .row (some ad) cs 27 3 Ss.length (Ss.map shC).flatten :: .blk g6 81 zL :: .blk g8 81 (rlC (bare L0)) :: .blk g14 27 (shC s_) :: .blk g15 122 (l4C (listsV (bare L0) s_).1) :: L)) ?_ ?_)))
 ·refine gc_region (Zp rfl (Zp rfl (Zp rfl (gl_callf rfl rfl rfl rfl Tryz.func30 rfl rfl rfl (rdFail_calls g _ A l.length c s (listsV (bare L0) s_).2 sa _ _ hS) ?_))))
  rintro _ w96 ⟨rfl, hS⟩
  refine ⟨_, rfl, ?_⟩
  refine gl_nil ?_
  intro a' ha
  exact ⟨g14, g15, ha.sub ⟨rfl, rfl, rfl, rfl, rfl, rfl, rfl, rfl, rfl, trivial⟩, hS⟩
 rintro a' w1 ⟨g14, g15, hF, hS⟩
 refine gc_of hF ?_
 clear hF
 refine gc_cut (fun a' w' => ∃ (s2 : RS), Fr 172 a' [(0, .pointer (some ⟨g, 0, none⟩)), (1, .slice (some ad) Ss.length cs), (2, .int .i64 sum), (6, .pointer (some ⟨g6, 0, none⟩)), (7, .int .i64 sa), (8, .pointer (some ⟨g8, 0, none⟩)), (14, .pointer (some ⟨g14, 0, none⟩)), (15, .pointer (some ⟨g15, 0, none⟩)), (16, .int .i64 (listsV (bare L0) s_).2)] ∧ 0 ≤ s2.a ∧ (s2.e = 0 → s2.a ≤ l.length ∧ (listsV (bare L0) s_).2 = 0) ∧ LvG (dnLy l Ss i sum sa) s2 (dlSum l (bare L0) s_ sum sa s2.a) ∧ St B w0 w' (.blk g 72 (rsC A l.length c (s2)) :: .row (some ad) cs 27 3 Ss.length (Ss.map shC).flatten :: .blk g6 81 zL :: .blk g8 81 (rlC (bare L0)) :: .blk g14 27 (shC s_) :: .blk g15 122 (l4C (listsV (bare L0) s_).1) :: L)) ?_ ?_
 ·refine gc_cut (fun a' w' => ∃ (bb : Bool), Fr 172 a' [(0, .pointer (some ⟨g, 0, none⟩)), (1, .slice (some ad) Ss.length cs), (2, .int .i64 sum), (6, .pointer (some ⟨g6, 0, none⟩)), (7, .int .i64 sa), (8, .pointer (some ⟨g8, 0, none⟩)), (14, .pointer (some ⟨g14, 0, none⟩)), (15, .pointer (some ⟨g15, 0, none⟩)), (16, .int .i64 (listsV (bare L0) s_).2), (119, .bool bb)] ∧ (bb = true ↔ ((listsV (bare L0) s_).2 = 0 ∧ L0.k = 5 ∧ ((Ss.length : Int) ≤ L0.fr ∨ Ss.getD L0.fr.toNat zSh ≠ s_))) ∧ St B w0 w' (.blk g 72 (rsC A l.length c (s.fl (listsV (bare L0) s_).2 sa)) :: .row (some ad) cs 27 3 Ss.length (Ss.map shC).flatten :: .blk g6 81 zL :: .blk g8 81 (rlC (bare L0)) :: .blk g14 27 (shC s_) :: .blk g15 122 (l4C (listsV (bare L0) s_).1) :: L)) ?_ ?_
  ·refine gc_anyS hS (by kernel_rfl) rfl fun nq20 hK => ?_
   have hS := hS.dr nq20
   refine Yf 0 0 Tryz.underlying81 rfl el3 (by kernel_rfl) (fun _ _ _ _ h => h) hK ?_
   refine Yb 1 3 rfl (by kernel_rfl) (fun _ _ _ _ h => h) hK ?_
   refine Yp 2 rfl (by kernel_rfl) (fun _ _ _ _ h => h) hK ?_
   refine ga_spell 99 (v := .bool (decide (L0.k = 5))) rfl (rfl) ?_
   refine Yp 3 rfl (by kernel_rfl) (fun _ _ _ _ h => h) hK ?_
   refine ga_split (t := 100) rfl (fun c100 => ?_) (fun c100 => ?_)
   ·simp only [NN, reduceCtorEq] at c100
    refine ga_take_at 4 rfl rfl rfl rfl rfl rfl rfl (by kernel_rfl) (fun _ _ _ _ h => h) hK (fun w1 hS => op_pure hT rfl) ?_
    refine ga_take_at 5 rfl rfl rfl rfl rfl rfl rfl (by kernel_rfl) (fun _ _ _ _ h => h) hK (fun w1 hS => op_pure hT rfl) ?_
    refine Yp 6 rfl (by kernel_rfl) (fun _ _ _ _ h => h) hK ?_
    refine Yp 7 rfl (by kernel_rfl) (fun _ _ _ _ h => h) hK ?_
    refine ga_split (t := 104) rfl (fun c104 => ?_) (fun c104 => ?_)
    ·simp only [NN, reduceCtorEq] at c104
     refine ga_take_at 8 rfl rfl rfl rfl rfl rfl rfl (by kernel_rfl) (fun _ _ _ _ h => h) hK (fun w1 hS => op_fieldB 8 rfl Tryz.underlying81 rfl el3 rfl rfl) ?_
     refine ga_take_at 9 rfl rfl rfl rfl rfl rfl rfl (by kernel_rfl) (fun _ _ _ _ h => h) hK (fun w1 hS => op_loadB 3 hT hS rfl rfl rfl rfl rfl rfl) ?_
     refine ga_take_at 10 rfl rfl rfl rfl rfl rfl rfl (by kernel_rfl) (fun _ _ _ _ h => h) hK (fun w1 hS => op_pure hT rfl) ?_
     refine ga_take_at 11 rfl rfl rfl rfl rfl rfl rfl (by kernel_rfl) (fun _ _ _ _ h => h) hK (fun w1 hS => op_pure hT rfl) ?_
     refine ga_take_at 12 rfl rfl rfl rfl rfl rfl rfl (by kernel_rfl) (fun _ _ _ _ h => h) hK (fun w1 hS => op_pure hT rfl) ?_
     refine ga_take_at 13 rfl rfl rfl rfl rfl rfl rfl (by kernel_rfl) (fun _ _ _ _ h => h) hK (fun w1 hS => op_pure hT rfl) ?_
     refine ga_split (t := 110) rfl (fun c110 => ?_) (fun c110 => ?_)
     ·simp only [NN, reduceCtorEq] at c110
      refine Ys 14 rfl (by kernel_rfl) (fun _ _ _ _ h => h) hK ?_
      refine Ys 15 rfl (by kernel_rfl) (fun _ _ _ _ h => h) hK ?_
      refine Ys 16 rfl (by kernel_rfl) (fun _ _ _ _ h => h) hK ?_
      refine Ys 17 rfl (by kernel_rfl) (fun _ _ _ _ h => h) hK ?_
      refine Ys 18 rfl (by kernel_rfl) (fun _ _ _ _ h => h) hK ?_
      refine Ys 19 rfl (by kernel_rfl) (fun _ _ _ _ h => h) hK ?_
      refine Ys 20 rfl (by kernel_rfl) (fun _ _ _ _ h => h) hK ?_
      refine ga_take_at 21 rfl rfl rfl rfl rfl rfl rfl (by kernel_rfl) (fun _ _ _ _ h => h) hK (fun w1 hS => op_pure hT rfl) ?_
      refine Yp 22 rfl (by kernel_rfl) (fun _ _ _ _ h => h) hK ?_
      refine ga_done (by kernel_rfl) ?_
      intro a' ha
      exact ⟨true, ha.sub ⟨rfl, rfl, rfl, rfl, rfl, rfl, rfl, rfl, rfl, rfl, trivial⟩, ⟨fun _ => ⟨by omega, by omega, .inl (by omega)⟩, fun _ => rfl⟩, hS⟩
     simp only [NN, reduceCtorEq] at c110
     refine ga_take_at 14 rfl rfl rfl rfl rfl rfl rfl (by kernel_rfl) (fun _ _ _ _ h => h) hK (fun w1 hS => op_pure hT rfl) ?_
     refine ga_take_at 15 rfl rfl rfl rfl rfl rfl rfl (by kernel_rfl) (fun _ _ _ _ h => h) hK (fun w1 hS => op_fieldB 8 rfl Tryz.underlying81 rfl el3 rfl rfl) ?_
     refine ga_take_at 16 rfl rfl rfl rfl rfl rfl rfl (by kernel_rfl) (fun _ _ _ _ h => h) hK (fun w1 hS => op_loadB 3 hT hS rfl rfl rfl rfl rfl rfl) ?_
     refine ga_take_at 17 rfl rfl rfl rfl rfl rfl rfl (by kernel_rfl) (fun _ _ _ _ h => h) hK (fun w1 hS => op_indexAddr hT rfl rfl el27.cellsOf.1 el27.cellsOf.2 rfl rfl (hfr (by omega) (by omega)).1 (by omega) rfl) ?_
     refine ga_take_at 18 rfl rfl rfl rfl rfl rfl rfl (by kernel_rfl) (fun _ _ _ _ h => h) hK (fun w1 hS => op_loadS Tryz.underlying27 rfl el27 rfl rfl (exSh (l := Ss) (i := L0.fr.toNat) (s := Ss.getD L0.fr.toNat zSh) hS rfl (by have := (hfr (by omega) (by omega)).1; rw [List.getD_eq_getElem?_getD, List.getElem?_eq_getElem (by omega)]; rfl)) rfl) ?_
     refine ga_take_at 19 rfl rfl rfl rfl rfl rfl rfl (by kernel_rfl) (fun _ _ _ _ h => h) hK (fun w1 hS => op_loadG 4 Tryz.underlying27 rfl el27 hS rfl rfl rfl rfl rfl) ?_
     refine ga_take_at 20 rfl rfl rfl rfl rfl rfl rfl (by kernel_rfl) (fun _ _ _ _ h => h) hK (fun w1 hS => op_neq3 shape_three rfl rfl rfl) ?_
     refine ga_take_at 21 rfl rfl rfl rfl rfl rfl rfl (by kernel_rfl) (fun _ _ _ _ h => h) hK (fun w1 hS => op_pure hT rfl) ?_
     refine Yp 22 rfl (by kernel_rfl) (fun _ _ _ _ h => h) hK ?_
     refine ga_done (by kernel_rfl) ?_
     intro a' ha
     refine ⟨_, ha.sub ⟨rfl, rfl, rfl, rfl, rfl, rfl, rfl, rfl, rfl, rfl, trivial⟩, ?_, hS⟩
     exact (sh_ne_iff (k := L0.k) (fr := L0.fr) (n := (Ss.length : Int)) (s2 := Ss.getD L0.fr.toNat zSh) (s := s_) (by omega) (by omega)).trans ⟨fun h => ⟨by omega, h⟩, fun h => h.2⟩
    simp only [NN, reduceCtorEq] at c104
    refine Ys 8 rfl (by kernel_rfl) (fun _ _ _ _ h => h) hK ?_
    refine Ys 9 rfl (by kernel_rfl) (fun _ _ _ _ h => h) hK ?_
    refine Ys 10 rfl (by kernel_rfl) (fun _ _ _ _ h => h) hK ?_
    refine Ys 11 rfl (by kernel_rfl) (fun _ _ _ _ h => h) hK ?_
    refine Ys 12 rfl (by kernel_rfl) (fun _ _ _ _ h => h) hK ?_
    refine Ys 13 rfl (by kernel_rfl) (fun _ _ _ _ h => h) hK ?_
    refine ga_none 14 rfl rfl rfl rfl rfl rfl (by kernel_rfl) (fun _ _ _ _ h => h) hK ?_
    refine ga_none 15 rfl rfl rfl rfl rfl rfl (by kernel_rfl) (fun _ _ _ _ h => h) hK ?_
    refine ga_none 16 rfl rfl rfl rfl rfl rfl (by kernel_rfl) (fun _ _ _ _ h => h) hK ?_
    refine ga_none 17 rfl rfl rfl rfl rfl rfl (by kernel_rfl) (fun _ _ _ _ h => h) hK ?_
    refine ga_none 18 rfl rfl rfl rfl rfl rfl (by kernel_rfl) (fun _ _ _ _ h => h) hK ?_
    refine ga_none 19 rfl rfl rfl rfl rfl rfl (by kernel_rfl) (fun _ _ _ _ h => h) hK ?_
    refine ga_none 20 rfl rfl rfl rfl rfl rfl (by kernel_rfl) (fun _ _ _ _ h => h) hK ?_
    refine Ys 21 rfl (by kernel_rfl) (fun _ _ _ _ h => h) hK ?_
    refine Yp 22 rfl (by kernel_rfl) (fun _ _ _ _ h => h) hK ?_
    refine ga_done (by kernel_rfl) ?_
    intro a' ha
    exact ⟨false, ha.sub ⟨rfl, rfl, rfl, rfl, rfl, rfl, rfl, rfl, rfl, rfl, trivial⟩, ⟨fun h => (by cases h), fun h => absurd h.2.1 (by omega)⟩, hS⟩
   simp only [NN, reduceCtorEq] at c100
   refine Ys 4 rfl (by kernel_rfl) (fun _ _ _ _ h => h) hK ?_
   refine Ys 5 rfl (by kernel_rfl) (fun _ _ _ _ h => h) hK ?_
   refine Yp 6 rfl (by kernel_rfl) (fun _ _ _ _ h => h) hK ?_
   refine Yp 7 rfl (by kernel_rfl) (fun _ _ _ _ h => h) hK ?_
   refine Ys 8 rfl (by kernel_rfl) (fun _ _ _ _ h => h) hK ?_
   refine Ys 9 rfl (by kernel_rfl) (fun _ _ _ _ h => h) hK ?_
   refine Ys 10 rfl (by kernel_rfl) (fun _ _ _ _ h => h) hK ?_
   refine Ys 11 rfl (by kernel_rfl) (fun _ _ _ _ h => h) hK ?_
   refine Ys 12 rfl (by kernel_rfl) (fun _ _ _ _ h => h) hK ?_
   refine Ys 13 rfl (by kernel_rfl) (fun _ _ _ _ h => h) hK ?_
   refine ga_none 14 rfl rfl rfl rfl rfl rfl (by kernel_rfl) (fun _ _ _ _ h => h) hK ?_
   refine ga_none 15 rfl rfl rfl rfl rfl rfl (by kernel_rfl) (fun _ _ _ _ h => h) hK ?_
   refine ga_none 16 rfl rfl rfl rfl rfl rfl (by kernel_rfl) (fun _ _ _ _ h => h) hK ?_
   refine ga_none 17 rfl rfl rfl rfl rfl rfl (by kernel_rfl) (fun _ _ _ _ h => h) hK ?_
   refine ga_none 18 rfl rfl rfl rfl rfl rfl (by kernel_rfl) (fun _ _ _ _ h => h) hK ?_
   refine ga_none 19 rfl rfl rfl rfl rfl rfl (by kernel_rfl) (fun _ _ _ _ h => h) hK ?_
   refine ga_none 20 rfl rfl rfl rfl rfl rfl (by kernel_rfl) (fun _ _ _ _ h => h) hK ?_
   refine Ys 21 rfl (by kernel_rfl) (fun _ _ _ _ h => h) hK ?_
   refine Yp 22 rfl (by kernel_rfl) (fun _ _ _ _ h => h) hK ?_
   refine ga_done (by kernel_rfl) ?_
   intro a' ha
   exact ⟨false, ha.sub ⟨rfl, rfl, rfl, rfl, rfl, rfl, rfl, rfl, rfl, rfl, trivial⟩, ⟨fun h => (by cases h), fun h => absurd h.2.1 (by omega)⟩, hS⟩
  rintro a' w1 ⟨bb, hF, hbb, hS⟩
  refine gc_of hF ?_
  clear hF
  refine gc_cond rfl rfl (fun c119 => ?_) (fun c119 => ?_)
  ·refine gc_region (Zp rfl (Zp rfl (gl_callf rfl rfl rfl rfl Tryz.func30 rfl rfl rfl (rdFail_calls g _ A l.length c (s.fl (listsV (bare L0) s_).2 sa) 66 sa _ _ hS) ?_)))
   rintro _ w122 ⟨rfl, hS⟩
   refine ⟨_, rfl, ?_⟩
   refine gl_nil ?_
   intro a' ha
   have h1 := hbb.1 c119
   have h0 : s.fl (listsV (bare L0) s_).2 sa = s := by unfold RS.fl; rw [if_neg (fun h => h.2 h1.1)]
   rw [h0] at hS
   have h2 : s.fl 66 sa = ⟨s.a, 66, sa⟩ := by unfold RS.fl; rw [if_pos ⟨hse, by decide⟩]
   have hno : ¬ (outV (bare L0) (Ss.getD i zSh)).2 ≠ 0 := by rw [hsg]; omega
   have h3 : dnLy l Ss i sum sa = .error (66, sa) := hD.trans (dlOut_f hno (by rw [hsg]; exact h1.2))
   refine ⟨s.fl 66 sa, ha.sub ⟨rfl, rfl, rfl, rfl, rfl, rfl, rfl, rfl, rfl, trivial⟩, by rw [h2]; exact hsa, ?_, ?_, hS⟩
   ·rw [h2]; exact fun h => absurd h (show ¬ (66 : Int) = 0 by decide)
   rw [h2]; exact ⟨fun h => absurd h (show ¬ (66 : Int) = 0 by decide), fun _ => h3⟩
  refine gc_skip ?_
  intro a' ha
  refine ⟨s.fl (listsV (bare L0) s_).2 sa, ha.sub ⟨rfl, rfl, rfl, rfl, rfl, rfl, rfl, rfl, rfl, trivial⟩, by rw [fl_a]; exact hsa, fun h => ?_, ?_, hS⟩
  ·rw [fl_a]
   refine ⟨hsl hse, ?_⟩
   unfold RS.fl at h
   by_cases h5 : (listsV (bare L0) s_).2 = 0
   ·exact h5
   rw [if_pos ⟨hse, h5⟩] at h
   exact h
  rw [fl_a]
  refine lvgE hL (fun _ hx => ?_) (fun _ hx => ?_)
  ·rw [dlOut_b (by rw [hsg]; omega), hsg, hl2]
  have hnf : ¬ (L0.k = 5 ∧ ((Ss.length : Int) ≤ L0.fr ∨ Ss.getD L0.fr.toNat zSh ≠ s_)) := fun h => by rw [hbb.2 ⟨hx, h⟩] at c119; cases c119
  have hno : ¬ (outV (bare L0) (Ss.getD i zSh)).2 ≠ 0 := by rw [hsg]; omega
  unfold dlOut dlSum
  rw [hsg] at hno ⊢
  rw [if_neg hno, if_neg hnf]
 rintro a' w1 ⟨s2, hF, hsa2, hsl2, hL2, hS⟩
 refine gc_of hF ?_
 clear hF
 refine gc_cut (fun a' w' => ∃ (s3 : RS), Fr 172 a' [(0, .pointer (some ⟨g, 0, none⟩)), (1, .slice (some ad) Ss.length cs), (2, .int .i64 sum), (6, .pointer (some ⟨g6, 0, none⟩)), (7, .int .i64 sa), (8, .pointer (some ⟨g8, 0, none⟩)), (14, .pointer (some ⟨g14, 0, none⟩)), (15, .pointer (some ⟨g15, 0, none⟩)), (16, .int .i64 (listsV (bare L0) s_).2)] ∧ 0 ≤ s3.a ∧ (s3.e = 0 → s3.a ≤ l.length ∧ (listsV (bare L0) s_).2 = 0 ∧ ¬ 65536 < sum + wsum (bare L0) s_) ∧ LvG (dnLy l Ss i sum sa) s3 (dlLists l (bare L0) (outV (bare L0) s_).1 (lensV (bare L0) s_).1.toNat (lensV (bare L0) s_).2.1.toNat (lensV (bare L0) s_).2.2.1.toNat (lensV (bare L0) s_).2.2.2.toNat s3.a) ∧ St B w0 w' (.blk g 72 (rsC A l.length c (s3)) :: .row (some ad) cs 27 3 Ss.length (Ss.map shC).flatten :: .blk g6 81 zL :: .blk g8 81 (rlC (bare L0)) :: .blk g14 27 (shC s_) :: .blk g15 122 (l4C (listsV (bare L0) s_).1) :: L)) ?_ ?_
 ·refine gc_seq fun K19 hK19 => gc_region (Zp rfl (Zp rfl (Zp rfl (gl_split (t := 125) rfl (fun c125 => ?_) (fun c125 => ?_)))))
  ·simp only [NN, reduceCtorEq] at c125
   refine Zu rfl (Zp rfl (Zu rfl (gl_op rfl rfl rfl (op_ixA (j0 := 0) (j := 0) rfl Tryz.underlying122 el3 rfl rfl (by decide) (by decide) rfl) ?_)))
   refine Zu rfl (Zb 5 hS rfl (Zu rfl (Zi rfl (by omega) ?_)))
   refine Zu rfl (gl_op rfl rfl rfl (op_ixA (j0 := 0) (j := 1) rfl Tryz.underlying122 el3 rfl rfl (by decide) (by decide) rfl) ?_)
   refine Zu rfl (Zb 5 hS rfl (Zu rfl (Zi rfl (by omega) ?_)))
   refine Zu rfl (gl_op rfl rfl rfl (op_ixA (j0 := 0) (j := 2) rfl Tryz.underlying122 el3 rfl rfl (by decide) (by decide) rfl) ?_)
   refine Zu rfl (Zb 5 hS rfl (Zu rfl (Zi rfl (by omega) ?_)))
   refine Zu rfl (Zi rfl (by omega) ?_)
   refine Zu rfl (gl_op rfl rfl rfl (op_ixA (j0 := 0) (j := 3) rfl Tryz.underlying122 el3 rfl rfl (by decide) (by decide) rfl) ?_)
   refine Zu rfl (Zb 5 hS rfl (Zu rfl (Zi rfl (by omega) ?_)))
   refine Zu rfl (Zi rfl (by omega) ?_)
   refine Zu rfl (Zp rfl (Zp rfl (gl_nil (hK19 _ _ (gc_cond rfl rfl (fun c142 => ?_) (fun c142 => ?_))))))
   ·simp only [NN, reduceCtorEq] at c142
    refine gc_region (Zp rfl (Zp rfl (gl_callf rfl rfl rfl rfl Tryz.func30 rfl rfl rfl (rdFail_calls g _ A l.length c s2 65 sa _ _ hS) ?_)))
    rintro _ w145 ⟨rfl, hS⟩
    refine ⟨_, rfl, ?_⟩
    refine gl_nil ?_
    intro a' ha
    have hws : (listsV (bare L0) s_).2 = 0 → sum + wsum (bare L0) s_ = sum + (listsV (bare L0) s_).1.1 + (listsV (bare L0) s_).1.2.1 + 2 * (listsV (bare L0) s_).1.2.2.1 + 2 * (listsV (bare L0) s_).1.2.2.2 := fun h => by
     rw [lists_len (by omega)]
     unfold wsum
     omega
    have hLs := lvgI (l := l) (c := 65536 < sum + wsum (bare L0) s_) (x := 65) (y := sa) (by decide) hL2
    have h0 : (listsV (bare L0) s_).2 = 0 := by omega
    have hbig : 65536 < sum + wsum (bare L0) s_ := by have h9 := hws h0; omega
    refine ⟨s2.fl 65 sa, ha.sub ⟨rfl, rfl, rfl, rfl, rfl, rfl, rfl, rfl, rfl, trivial⟩, (by rw [fl_a]; exact hsa2), (fun h => ?_), ?_, hS⟩
    ·unfold RS.fl at h
     by_cases h5 : s2.e = 0
     ·rw [if_pos ⟨h5, by decide⟩] at h
      exact absurd h (show ¬ (65 : Int) = 0 by decide)
     rw [if_neg (fun h6 => h5 h6.1)] at h
     exact absurd h h5
    by_cases h5 : s2.e = 0
    ·exact hLs.1 ⟨h5, hbig⟩ _
    have h6 : s2.fl 65 sa = s2 := by unfold RS.fl; rw [if_neg (fun h6 => h5 h6.1)]
    rw [h6]
    exact hL2.dead h5
   simp only [NN, reduceCtorEq] at c142
   refine gc_skip ?_
   intro a' ha
   have hws : (listsV (bare L0) s_).2 = 0 → sum + wsum (bare L0) s_ = sum + (listsV (bare L0) s_).1.1 + (listsV (bare L0) s_).1.2.1 + 2 * (listsV (bare L0) s_).1.2.2.1 + 2 * (listsV (bare L0) s_).1.2.2.2 := fun h => by
    rw [lists_len (by omega)]
    unfold wsum
    omega
   have hLs := lvgI (l := l) (c := 65536 < sum + wsum (bare L0) s_) (x := 65) (y := sa) (by decide) hL2
   have hnb : s2.e = 0 → ¬ 65536 < sum + wsum (bare L0) s_ := fun h => by
    have h0 := (hsl2 h).2
    have h9 := hws h0
    omega
   exact ⟨s2, ha.sub ⟨rfl, rfl, rfl, rfl, rfl, rfl, rfl, rfl, rfl, trivial⟩, hsa2, (fun h => ⟨(hsl2 h).1, (hsl2 h).2, hnb h⟩), hLs.2 (fun h => hnb h.1 h.2), hS⟩
  simp only [NN, reduceCtorEq] at c125
  refine Zs rfl (Zs rfl (Zs rfl (Zs rfl (Zs rfl (Zs rfl (Zs rfl (Zs rfl (Zs rfl (Zs rfl (Zs rfl (Zs rfl (Zs rfl (Zs rfl (Zs rfl (Zs rfl (Zp rfl (gl_nil (hK19 _ _ (gc_cond_f rfl (gc_skip ?_))))))))))))))))))))
  intro a' ha
  have hws : (listsV (bare L0) s_).2 = 0 → sum + wsum (bare L0) s_ = sum + (listsV (bare L0) s_).1.1 + (listsV (bare L0) s_).1.2.1 + 2 * (listsV (bare L0) s_).1.2.2.1 + 2 * (listsV (bare L0) s_).1.2.2.2 := fun h => by
   rw [lists_len (by omega)]
   unfold wsum
   omega
  have hLs := lvgI (l := l) (c := 65536 < sum + wsum (bare L0) s_) (x := 65) (y := sa) (by decide) hL2
  have hnb : s2.e = 0 → ¬ 65536 < sum + wsum (bare L0) s_ := fun h => by
   have h0 := (hsl2 h).2
   have h9 := hws h0
   omega
  exact ⟨s2, ha.sub ⟨rfl, rfl, rfl, rfl, rfl, rfl, rfl, rfl, rfl, trivial⟩, hsa2, (fun h => ⟨(hsl2 h).1, (hsl2 h).2, hnb h⟩), hLs.2 (fun h => hnb h.1 h.2), hS⟩
 rintro a' w1 ⟨s3, hF, hsa3, hsl3, hL3, hS⟩
 refine gc_of hF ?_
 clear hF
 refine gc_cut (fun a' w' => ∃ (s' : RS) (L' : Ly) (K : Nat → Prop) (wk : World), Fr 172 a' [(0, .pointer (some ⟨g, 0, none⟩)), (6, .pointer (some ⟨g6, 0, none⟩)), (8, .pointer (some ⟨g8, 0, none⟩))] ∧ 0 ≤ s'.a ∧ ((s'.e ≠ 0 ∧ dnLy l Ss i sum sa = .error (s'.e, s'.i)) ∨ (s'.e = 0 ∧ s'.a ≤ l.length ∧ ∃ x o, dnLy l Ss i sum sa = .ok (x, o, s'.a) ∧ LyU wk K ⟨L', x.lw, x.lb, x.lz, x.lzb⟩ ∧ bare L' = x.L ∧ outV x.L (Ss.getD i zSh) = (o, 0) ∧ o.ok ∧ sizeV o = (o.c * o.h * o.w, 0) ∧ 0 ≤ wtsV x ∧ sum + wtsV x ≤ 65536)) ∧ St B w0 w' (.blk g 72 (rsC A l.length c (s')) :: .row (some ad) cs 27 3 Ss.length (Ss.map shC).flatten :: .blk g6 81 zL :: .blk g8 81 (rlC (L')) :: .keep K wk :: L)) ?_ ?_
 ·refine gc_seq fun K20 hK20 => gc_region (Zp rfl (Zp rfl (Zf 2 Tryz.underlying72 rfl el3 (Zb 0 hS rfl (Zp rfl (gl_nil (hK20 _ _ (gc_cond rfl rfl (fun c150 => ?_) (fun c150 => ?_)))))))))
  ·simp only [NN, reduceCtorEq] at c150
   have hse3 : s3.e = 0 := by omega
   obtain ⟨hsl4, hl00, hnb⟩ := hsl3 hse3
   have hno : ¬ (outV (bare L0) s_).2 ≠ 0 := by omega
   have hwb := wsum_bd hno
   have hoo := out_ok hno
   obtain ⟨nw, nb, nz, ny, hlv⟩ : ∃ nw nb nz ny : Nat, lensV (bare L0) s_ = ((nw : Int), (nb : Int), (nz : Int), (ny : Int)) := ⟨(lensV (bare L0) s_).1.toNat, (lensV (bare L0) s_).2.1.toNat, (lensV (bare L0) s_).2.2.1.toNat, (lensV (bare L0) s_).2.2.2.toNat, by
    rw [Int.toNat_of_nonneg (by omega), Int.toNat_of_nonneg (by omega), Int.toNat_of_nonneg (by omega), Int.toNat_of_nonneg (by omega)]⟩
   have hlv2 : (listsV (bare L0) s_).1 = ((nw : Int), (nb : Int), (nz : Int), (ny : Int)) := (lists_len (by omega)).trans hlv
   have hws : wsum (bare L0) s_ = nw + nb + 2 * nz + 2 * ny := by unfold wsum; rw [hlv]
   rw [hlv] at hwb
   simp only at hwb
   rw [hlv2] at hS
   have hL := hL3
   rw [hlv] at hL
   simp only [Int.toNat_natCast] at hL
   rw [hws] at hnb
   refine gc_seq fun K21 hK21 => gc_region (Zp rfl (gl_op rfl rfl rfl (op_ixA (j0 := 0) (j := 0) rfl Tryz.underlying122 el3 rfl rfl (by decide) (by decide) rfl) ?_))
   refine Zb 5 hS rfl (gl_callf rfl rfl rfl rfl Tryz.func57 rfl rfl rfl (rdFloatsN_calls g _ A c l s3 nw _ _ hS hr (by omega) (by omega) (fun _ => by omega) hsa3) ?_)
   rintro _ w154 ⟨AW, cW, rfl, hS⟩
   refine ⟨_, rfl, ?_⟩
   have hFW := rsFs_ok l nw s3
   have hMW := rsFs_live l nw s3
   have hL := lvgF (f := fun W a => dlB l (bare L0) (outV (bare L0) s_).1 nb nz ny W a) hL
   generalize rsFs l nw s3 = q at hS hL hFW hMW ⊢
   obtain ⟨W, s4⟩ := q
   simp only at hS hL hFW hMW ⊢
   have hS := hS.permute (.cons _ ((List.perm_append_comm (l₁ := [_]) (l₂ := [_, _, _, _, _])).append_right _))
   refine Zf 10 Tryz.underlying81 rfl el78 (gl_store 3 hS el78.cellsOf.1 el78.cellsOf.2 rfl rfl rfl rfl rfl rfl rfl rfl fun w_212 hS => ?_)
   refine gl_nil (hK21 _ _ (gc_seq fun K22 hK22 => gc_region (Zp rfl (gl_op rfl rfl rfl (op_ixA (j0 := 0) (j := 1) rfl Tryz.underlying122 el3 rfl rfl (by decide) (by decide) rfl) ?_))))
   refine Zb 5 hS rfl (gl_callf rfl rfl rfl rfl Tryz.func57 rfl rfl rfl (rdFloatsN_calls g _ A c l s4 nb _ _ hS hr (by omega) (by omega) (fun _ => by omega) (hFW.2.2.1 hsa3)) ?_)
   rintro _ w159 ⟨ABl, cBl, rfl, hS⟩
   refine ⟨_, rfl, ?_⟩
   have hFBl := rsFs_ok l nb s4
   have hMBl := rsFs_live l nb s4
   have hL := lvgF (f := fun Bl a => dlZ l (bare L0) (outV (bare L0) s_).1 nz ny W Bl a) hL
   generalize rsFs l nb s4 = q at hS hL hFBl hMBl ⊢
   obtain ⟨Bl, s5⟩ := q
   simp only at hS hL hFBl hMBl ⊢
   have hS := hS.permute (.cons _ ((List.perm_append_comm (l₁ := [_]) (l₂ := [_, _, _, _, _, _])).append_right _))
   refine Zf 11 Tryz.underlying81 rfl el78 (gl_store 3 hS el78.cellsOf.1 el78.cellsOf.2 rfl rfl rfl rfl rfl rfl rfl rfl fun w_213 hS => ?_)
   refine gl_nil (hK22 _ _ (gc_seq fun K23 hK23 => gc_region (Zp rfl (gl_op rfl rfl rfl (op_ixA (j0 := 0) (j := 2) rfl Tryz.underlying122 el3 rfl rfl (by decide) (by decide) rfl) ?_))))
   refine Zb 5 hS rfl (gl_callf rfl rfl rfl rfl Tryz.func59 rfl rfl rfl (rdPairs_calls g _ A c l s5 nz _ _ hS hr (by omega) (by omega) (hFBl.2.2.1 (hFW.2.2.1 hsa3))) ?_)
   rintro _ w164 ⟨AZ, cZ, rfl, hS⟩
   refine ⟨_, rfl, ?_⟩
   have hFZ := rsFs_ok l (2 * nz) s5
   have hMZ := rsFs_live l (2 * nz) s5
   have hL := lvgF (f := fun Z a => dlZB l (bare L0) (outV (bare L0) s_).1 ny W Bl Z a) hL
   generalize rsFs l (2 * nz) s5 = q at hS hL hFZ hMZ ⊢
   obtain ⟨Z, s6⟩ := q
   simp only at hS hL hFZ hMZ ⊢
   have hS := hS.permute (.cons _ ((List.perm_append_comm (l₁ := [_]) (l₂ := [_, _, _, _, _, _, _])).append_right _))
   refine Zf 12 Tryz.underlying81 rfl el79 (gl_store 3 hS el79.cellsOf.1 el79.cellsOf.2 rfl rfl rfl rfl rfl rfl rfl rfl fun w_214 hS => ?_)
   refine gl_nil (hK23 _ _ (gc_region (Zp rfl (gl_op rfl rfl rfl (op_ixA (j0 := 0) (j := 3) rfl Tryz.underlying122 el3 rfl rfl (by decide) (by decide) rfl) ?_))))
   refine Zb 5 hS rfl (gl_callf rfl rfl rfl rfl Tryz.func59 rfl rfl rfl (rdPairs_calls g _ A c l s6 ny _ _ hS hr (by omega) (by omega) (hFZ.2.2.1 (hFBl.2.2.1 (hFW.2.2.1 hsa3)))) ?_)
   rintro _ w169 ⟨AY, cY, rfl, hS⟩
   refine ⟨_, rfl, ?_⟩
   have hFY := rsFs_ok l (2 * ny) s6
   have hMY := rsFs_live l (2 * ny) s6
   have hL := lvgF (l := l) (n := 2 * ny) (f := fun (Y : List Nat) (a : Int) => (Except.ok ((⟨bare L0, W, Bl, prs Z, prs Y⟩ : Lx), (outV (bare L0) s_).1, a) : Ex Lyr)) hL
   generalize rsFs l (2 * ny) s6 = q at hS hL hFY hMY ⊢
   obtain ⟨Y, s7⟩ := q
   simp only at hS hL hFY hMY ⊢
   have hS := hS.permute (.cons _ ((List.perm_append_comm (l₁ := [_]) (l₂ := [_, _, _, _, _, _, _, _])).append_right _))
   refine Zf 13 Tryz.underlying81 rfl el79 (gl_store 3 hS el79.cellsOf.1 el79.cellsOf.2 rfl rfl rfl rfl rfl rfl rfl rfl fun w_215 hS => ?_)
   refine gl_nil ?_
   intro a' ha
   have hS : St B w0 _ ([.blk g 72 (rsC A l.length c (s7)), .row (some ad) cs 27 3 Ss.length (Ss.map shC).flatten, .blk g6 81 zL, .blk g8 81 (rlC (wth L0 (AW, W.length, cW) (ABl, Bl.length, cBl) (AZ, (prs Z).length, cZ) (AY, (prs Y).length, cY)))] ++ ([.blk g14 27 (shC s_), .blk g15 122 (l4C ((nw : Int), (nb : Int), (nz : Int), (ny : Int))), .row AW cW 77 1 W.length (W.map uV), .row ABl cBl 77 1 Bl.length (Bl.map uV), .row AZ cZ 136 2 (prs Z).length ((prs Z).map pC).flatten, .row AY cY 136 2 (prs Y).length ((prs Y).map pC).flatten] ++ L)) := hS
   refine ⟨s7, wth L0 (AW, W.length, cW) (ABl, Bl.length, cBl) (AZ, (prs Z).length, cZ) (AY, (prs Y).length, cY), _, _, ha.sub ⟨rfl, rfl, rfl, trivial⟩, hFY.2.2.1 (hFZ.2.2.1 (hFBl.2.2.1 (hFW.2.2.1 hsa3))), ?_, St.keepFront hS⟩
   by_cases h7 : s7.e = 0
   ·have h6 := hFY.2.2.2 h7
    have h5 := hFZ.2.2.2 h6
    have h4 := hFBl.2.2.2 h5
    have m4 := hMW (fun _ => ⟨hsa3, hsl4⟩) h4
    have m5 := hMBl (fun _ => m4.2) h5
    have m6 := hMZ (fun _ => m5.2) h6
    have m7 := hMY (fun _ => m6.2) h7
    have hwt : wtsV ⟨bare L0, W, Bl, prs Z, prs Y⟩ = nw + nb + 2 * nz + 2 * ny := by
     unfold wtsV
     rw [m4.1, m5.1, prs_len nz Z m6.1, prs_len ny Y m7.1]
     omega
    refine .inr ⟨h7, m7.2.2, ⟨bare L0, W, Bl, prs Z, prs Y⟩, (outV (bare L0) s_).1, hL.1 h7, ?_, rfl, ?_, hoo.1, hoo.2, by rw [hwt]; omega, by rw [hwt]; omega⟩
    ·exact ⟨⟨hok.k, hok.out, hok.kh, hok.kw, hok.sh, hok.sw, hok.ph, hok.pw, hok.fr, hok.a⟩, hS.rowRd (i := 6) rfl (keep_mem (.tail _ (.tail _ (.head _)))), rfl, hS.rowRd (i := 7) rfl (keep_mem (.tail _ (.tail _ (.tail _ (.head _))))), rfl,
      ⟨hS.rowRd (i := 8) rfl (keep_mem (.tail _ (.tail _ (.tail _ (.tail _ (.head _)))))), fun _ => rfl⟩, rfl, ⟨hS.rowRd (i := 9) rfl (keep_mem (.tail _ (.tail _ (.tail _ (.tail _ (.tail _ (.head _))))))), fun _ => rfl⟩, rfl⟩
    show outV (bare L0) (Ss.getD i zSh) = _
    rw [hsg]
    exact Prod.ext rfl (by show (outV (bare L0) s_).2 = 0; omega)
   exact .inl ⟨h7, hL.2 h7⟩
  simp only [NN, reduceCtorEq] at c150
  refine gc_skip ?_
  intro a' ha
  exact ⟨s3, bare L0, _, _, ha.sub ⟨rfl, rfl, rfl, trivial⟩, hsa3, .inl ⟨by omega, hL3.2 (by omega)⟩, St.keepFront (L1 := [_, _, _, _]) (L2 := [_, _]) hS⟩
 rintro a' w1 ⟨s', L', K, wk, hF, hsa', hpost, hS⟩
 refine gc_of hF ?_
 clear hF
 refine gc_seq fun K24 hK24 => gc_region (Zg 3 Tryz.underlying81 el81 hS rfl (gl_storeM 2 hS el81 rfl rfl rfl rfl rfl rfl rfl rfl rfl fun w_217 hS => ?_))
 refine gl_nil (hK24 _ _ (gc_ret (gk_res1 rfl (⟨_, rfl, run_loadVarB 2 Tryz.underlying81 rfl el81 hS rfl rfl rfl⟩) ?_)))
 exact ⟨s', L', K, wk, rfl, hsa', hpost, (hS.erase 2).erase 2⟩
end Go.Proofs.YtnomlloaahoceaaGreatDoor
