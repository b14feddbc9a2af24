/- Contracts of functions that CodeNetBytes reaches, and words to say them. No condition. -/
import Derived.Test.YtnomlloaahoceaaGreatDoorZ24
import Derived.Test.YtnomlloaahoceaaGreatDoorZ25
import Derived.Test.YtnomlloaahoceaaGreatDoorZ03
/- Contracts of package ambitref8: names, read. No condition. -/
namespace Go.Proofs.YtnomlloaahoceaaGreatDoor
open Go.RowKit
set_option linter.unusedVariables false
set_option linter.unusedSimpArgs false
def rsX (l : List UInt8) (s : RS) : RS := ⟨(readTextV l s.a 128).2.1, (s.fl (readTextV l s.a 128).2.2 s.a).e, (s.fl (readTextV l s.a 128).2.2 s.a).i⟩
theorem rsX_live {l : List UInt8} {s : RS} (h : (rsX l s).e = 0) : s.e = 0 ∧ (readTextV l s.a 128).2.2 = 0 := by
 have h : (s.fl (readTextV l s.a 128).2.2 s.a).e = 0 := h
 unfold RS.fl at h
 by_cases h5 : s.e = 0 ∧ (readTextV l s.a 128).2.2 ≠ 0
 ·rw [if_pos h5] at h; exact absurd h h5.2
 rw [if_neg h5] at h
 exact ⟨h, Decidable.byContradiction fun h6 => h5 ⟨h, h6⟩⟩
theorem lvgX {α : Type} {T : Ex α} {l : List UInt8} {s : RS} {f : ByteArray → Int → Ex α} (he : s.e = 0) (h : LvG T s (match rT l s.a with | .error x => .error x | .ok (t, a) => f t a)) : LvG T (rsX l s) (f (readTextV l s.a 128).1 (rsX l s).a) := by
 have h0 := h.1 he
 by_cases hx : (readTextV l s.a 128).2.2 = 0
 ·have hr : rT l s.a = .ok ((readTextV l s.a 128).1, (readTextV l s.a 128).2.1) := by unfold rT; rw [if_pos hx]
  rw [hr] at h0
  have h1 : (rsX l s).e = 0 := by show (s.fl _ _).e = 0; unfold RS.fl; rw [if_neg (fun h2 => h2.2 hx)]; exact he
  exact ⟨fun _ => h0, fun h2 => absurd h1 h2⟩
 have hr : rT l s.a = .error ((readTextV l s.a 128).2.2, s.a) := by unfold rT; rw [if_neg hx]
 rw [hr] at h0
 have h1 : (rsX l s).e = (readTextV l s.a 128).2.2 ∧ (rsX l s).i = s.a := by
  show (s.fl _ _).e = _ ∧ (s.fl _ _).i = _
  unfold RS.fl
  rw [if_pos ⟨he, hx⟩]
  exact ⟨rfl, rfl⟩
 exact ⟨fun h2 => absurd (h1.1.symm.trans h2) hx, fun _ => by rw [h1.1, h1.2]; exact h0⟩
theorem textV_at (l : List UInt8) (at_ : Int) : 0 ≤ (readTextV l at_ 128).2.1 ∧ (readTextV l at_ 128).1.size ≤ l.length := by
 by_cases hx : (readTextV l at_ 128).2.2 = 0
 ·by_cases h0 : 0 ≤ at_ ∧ at_ ≤ l.length
  ·have hr : rT l at_ = .ok ((readTextV l at_ 128).1, (readTextV l at_ 128).2.1) := by unfold rT; rw [if_pos hx]
   have := rT_ok hr h0
   exact ⟨this.1, this.2.2⟩
  unfold readTextV at hx
  rw [if_pos (by omega)] at hx
  exact absurd hx (by decide)
 unfold readTextV at hx ⊢
 split
 ·exact ⟨Int.le_refl 0, Nat.zero_le _⟩
 rename_i h1
 rw [if_neg h1] at hx
 simp only at hx ⊢
 split
 ·exact ⟨Int.le_refl 0, Nat.zero_le _⟩
 rename_i h2
 rw [if_neg h2] at hx
 split
 ·exact ⟨Int.le_refl 0, Nat.zero_le _⟩
 rename_i h3
 rw [if_neg h3] at hx
 split
 ·exact ⟨Int.le_refl 0, Nat.zero_le _⟩
 rename_i h4
 rw [if_neg h4] at hx
 split
 ·exact ⟨Int.le_refl 0, Nat.zero_le _⟩
 rename_i h5
 rw [if_neg h5] at hx
 exact absurd rfl hx
set_option maxHeartbeats 4000000 in
set_option maxRecDepth 100000 in
theorem rdNames_calls {T : Ex Nx} {B : Nat} {w0 : World} (g : Nat) (A : Option Addr) (c : Nat) (l : List UInt8) (s : RS) (width : Int) (s0 : Sh) (xs : List Lx) (L : List It) (w : World) (hS0 : St B w0 w (.blk g 72 (rsC A l.length c (s)) :: L))
 {ok : Nat → Prop} (hr : Rdb B w0 ok A l) (hb : s.e = 0 → l.length ≤ 1048576) (hb2 : l.length ≤ 4611686018427387904) (hc : l.length ≤ c) (hsa : 0 ≤ s.a) (hsl : s.e = 0 → s.a ≤ l.length) (hw : s.e = 0 → width ≤ 256) (hL0 : LvG T s (dnN l s0 xs width s.a)) :
 Calls Tryz.prog 34 ⟨[.pointer (some ⟨g, 0, none⟩), .int .i64 width]⟩ w fun en w' => ∃ (s' : RS) (N : List ByteArray) (AN : Option Addr) (cN : Nat), en = .returned (.slice AN N.length cN) ∧ 0 ≤ s'.a ∧ (s'.e = 0 → s.e = 0 ∧ s'.a ≤ l.length) ∧ LvG T s' (dnTail l ⟨s0, xs, N⟩ s'.a) ∧ N.length ≤ 257 ∧ St B w0 w' (.blk g 72 (rsC A l.length c (s')) :: .row AN cN 9 1 N.length (N.map tV) :: L) := by
 refine gc_enter (N := 106) Tryz.func34 rfl rfl rfl [(0, _), (1, _)] rfl ?_
 have hS := St.start w
 have hS := hS0
 refine gc_seq fun K1 hK1 => gc_region (Zp rfl (gl_nil (hK1 _ _ (gc_seq fun K2 hK2 => gc_region (Zp rfl (Zp rfl (Zf 1 Tryz.underlying72 rfl el3 (Zb 0 hS rfl (Zp rfl (gl_nil (hK2 _ _ (gc_seq fun K3 hK3 => gc_region (Zp rfl (gl_callf rfl rfl rfl rfl Tryz.func28 rfl rfl rfl (rdUint_calls g _ A c l s _ _ hS hr (by omega)) ?_))))))))))))))
 rintro _ w19 ⟨rfl, hS⟩
 refine ⟨_, rfl, ?_⟩
 have hU := rsU_ok l s
 have hL := lvgU (f := fun n a => if n ≠ 0 ∧ n ≠ width then .error (63, s.a) else dnNs l s0 xs n.toNat [] a) hL0
 generalize rsU l s = q at hS hL hU ⊢
 obtain ⟨n9, s1⟩ := q
 simp only at hS hL hU ⊢
 obtain ⟨n, rfl⟩ : ∃ n : Nat, n9 = n := ⟨n9.toNat, by omega⟩
 rw [Int.toNat_natCast] at hL
 have hLs := lvgI (l := l) (by decide : (63 : Int) ≠ 0) hL
 refine Zp rfl (gl_nil (hK3 _ _ (gc_cut (fun a' w' => ∃ (s2 : RS), Fr 106 a' [(0, .pointer (some ⟨g, 0, none⟩)), (6, .int .i64 (n : Nat))] ∧ 0 ≤ s2.a ∧ (s2.e = 0 → s.e = 0 ∧ s2.a ≤ l.length ∧ n ≤ 256) ∧ LvG T s2 (dnNs l s0 xs n [] s2.a) ∧ St B w0 w' (.blk g 72 (rsC A l.length c (s2)) :: L)) ?_ ?_)))
 ·refine gc_seq fun K4 hK4 => gc_region (Zp rfl (Zp rfl (Zf 2 Tryz.underlying72 rfl el3 (Zb 0 hS rfl (Zp rfl (Zp rfl (gl_split (t := 25) rfl (fun c25 => ?_) (fun c25 => ?_))))))))
  ·simp only [NN, reduceCtorEq] at c25
   refine Zu rfl (Zp rfl (Zu rfl (Zp rfl (Zp rfl (Zp rfl (gl_split (t := 29) rfl (fun c29 => ?_) (fun c29 => ?_)))))))
   ·simp only [NN, reduceCtorEq] at c29
    refine Zu rfl (Zp rfl (Zu rfl (Zp rfl (Zu rfl (Zp rfl (Zp rfl (gl_nil (hK4 _ _ (gc_cond rfl rfl (fun c33 => ?_) (fun c33 => ?_))))))))))
    ·simp only [NN, reduceCtorEq] at c33
     refine gc_region (Zp rfl (Zp rfl (gl_callf rfl rfl rfl rfl Tryz.func30 rfl rfl rfl (rdFail_calls g _ A l.length c s1 63 s.a _ _ hS) ?_)))
     rintro _ w36 ⟨rfl, hS⟩
     refine ⟨_, rfl, ?_⟩
     refine gl_nil ?_
     intro a' ha
     refine ⟨s1.fl 63 s.a, ha.sub ⟨rfl, rfl, trivial⟩, (by rw [fl_a]; exact hU.2.2.2 hsa), (fun h => ?_), hLs.1 ⟨by omega, by omega, by omega⟩ _, hS⟩
     have h1 := fl_live h
     unfold RS.fl at h
     rw [if_pos ⟨h1, by decide⟩] at h
     exact absurd h (show ¬ (63 : Int) = 0 by decide)
    simp only [NN, reduceCtorEq] at c33
    refine gc_skip ?_
    intro a' ha
    refine ⟨s1, ha.sub ⟨rfl, rfl, trivial⟩, hU.2.2.2 hsa, (fun h => ?_), hLs.2 (fun h => by omega), hS⟩
    have h1 := hU.2.2.1 h
    have h2 := hw h1.1
    exact ⟨h1.1, h1.2.2, by omega⟩
   simp only [NN, reduceCtorEq] at c29
   refine Zs rfl (Zs rfl (Zs rfl (Zp rfl (gl_nil (hK4 _ _ (gc_cond_f rfl (gc_skip ?_)))))))
   intro a' ha
   refine ⟨s1, ha.sub ⟨rfl, rfl, trivial⟩, hU.2.2.2 hsa, (fun h => ?_), hLs.2 (fun h => by omega), hS⟩
   have h1 := hU.2.2.1 h
   have h2 := hw h1.1
   exact ⟨h1.1, h1.2.2, by omega⟩
  simp only [NN, reduceCtorEq] at c25
  refine Zs rfl (Zs rfl (Zp rfl (Zp rfl (Zs rfl (Zs rfl (Zs rfl (Zp rfl (gl_nil (hK4 _ _ (gc_cond_f rfl (gc_skip ?_)))))))))))
  intro a' ha
  refine ⟨s1, ha.sub ⟨rfl, rfl, trivial⟩, hU.2.2.2 hsa, (fun h => ?_), hLs.2 (fun h => by omega), hS⟩
  have h1 := hU.2.2.1 h
  have h2 := hw h1.1
  exact ⟨h1.1, h1.2.2, by omega⟩
 rintro a' w1 ⟨s2, hF, hsa2, hs2, hL2, hS⟩
 refine gc_of hF ?_
 clear hF hL hLs
 refine gc_seq fun K5 hK5 => gc_region (Zp rfl (gl_nil (hK5 _ _ (gc_seq fun K6 hK6 => gc_seq fun K7 hK7 => gc_region (Zp rfl (gl_nil (hK7 _ _ (gc_block ?_))))))))
 have hS : St B w0 _ (.blk g 72 (rsC A l.length c (s2)) :: .row none 0 9 1 0 [] :: L) := (hS.nil 9 1).moveIn 1
 refine gc_loop (fun kk a' w' => ∃ (i : Nat) (N : List ByteArray) (s : RS) (AN : Option Addr) (cN : Nat), Fr 106 a' [(0, .pointer (some ⟨g, 0, none⟩)), (6, .int .i64 (n : Nat)), (7, .slice AN N.length cN), (8, .int .i64 (i : Nat))] ∧ i ≤ n ∧ kk = n + 1 - i ∧ N.length = i ∧ i ≤ 256 ∧ 0 ≤ s.a ∧ (s.e = 0 → s2.e = 0 ∧ s.a ≤ l.length) ∧ LvG T s (dnNs l s0 xs (n - i) N s.a) ∧ St B w0 w' (.blk g 72 (rsC A l.length c (s)) :: .row AN cN 9 1 N.length (N.map tV) :: L)) (n + 1) ?_ ?_ ?_
 ·intro a' ha; exact ⟨0, [], s2, none, 0, ha.sub ⟨rfl, rfl, rfl, rfl, trivial⟩, by omega, by omega, rfl, by omega, hsa2, fun h => ⟨h, (hs2 h).2.1⟩, hL2, hS⟩
 ·rintro a' w' ⟨i, _, _, _, _, _, h1, h2, _⟩; omega
 clear hS
 rintro kk a' w1 ⟨i, N, s5, AN, cN, hF, hi, hkk, hNl, hi256, hsa5, hs5, hL, hS⟩
 refine gc_of hF ?_
 clear hF
 refine gc_seq fun K8 hK8 => gc_seq fun K9 hK9 => gc_region (Zp rfl (Zp rfl (Zp rfl (Zp rfl (gl_split (t := 40) rfl (fun c40 => ?_) (fun c40 => ?_))))))
 ·simp only [NN, reduceCtorEq] at c40
  refine Zu rfl (Zp rfl (Zu rfl (Zp rfl (Zu rfl (Zf 2 Tryz.underlying72 rfl el3 (Zu rfl (Zb 0 hS rfl (Zu rfl (Zp rfl (Zp rfl (gl_nil (hK9 _ _ (gc_cond rfl rfl (fun c46 => ?_) (fun c46 => ?_))))))))))))))
  ·simp only [NN, reduceCtorEq] at c46
   refine gc_skip (hK8 _ _ (gc_seq fun K10 hK10 => gc_block (gc_seq fun K11 hK11 => gc_region (Zp rfl (Zp rfl (Zf 1 Tryz.underlying72 rfl el3 (Zb 0 hS rfl (Zp rfl (gl_nil (hK11 _ _ (gc_seq fun K12 hK12 => gc_anyS hS (by kernel_rfl) rfl fun nq10 hK => ?_)))))))))))
   have hS := hS.dr nq10
   have he5 : s5.e = 0 := by omega
   have hin : i < n := by omega
   have hbl := hb (hs2 (hs5 he5).1).1
   have hn256 := (hs2 (hs5 he5).1).2.2
   have htx := textV_at l s5.a
   have hLX := lvgX (f := fun t a => if nameV t = false ∨ t ∈ N then .error (67, s5.a) else dnNs l s0 xs (n - (i + 1)) (N ++ [t]) a) he5 (by
    have e : n - i = (n - (i + 1)) + 1 := by omega
    rw [e] at hL
    exact hL)
   refine Yp 0 rfl (by kernel_rfl) (fun _ _ _ _ h => h) hK ?_
   refine Yp 1 rfl (by kernel_rfl) (fun _ _ _ _ h => h) hK ?_
   refine Yf 2 0 Tryz.underlying72 rfl el22 (by kernel_rfl) (fun _ _ _ _ h => h) hK ?_
   refine Yb 3 0 rfl (by kernel_rfl) (fun _ _ _ _ h => h) hK ?_
   refine Yp 4 rfl (by kernel_rfl) (fun _ _ _ _ h => h) hK ?_
   refine Yp 5 rfl (by kernel_rfl) (fun _ _ _ _ h => h) hK ?_
   refine Yf 6 1 Tryz.underlying72 rfl el3 (by kernel_rfl) (fun _ _ _ _ h => h) hK ?_
   refine Yb 7 0 rfl (by kernel_rfl) (fun _ _ _ _ h => h) hK ?_
   refine ga_one 8 (by kernel_rfl) rfl ?_
   refine gl_callf rfl rfl rfl rfl Tryz.func62 rfl rfl rfl (rReadText_calls A c l s5.a 128 _ (hr hS) (by omega) hc) ?_
   rintro _ w62 ⟨rfl, hb62⟩
   refine ⟨_, rfl, ?_⟩
   have hS := hS.grown hb62
   refine gl_nil (ga_next hS fun hK => ?_)
   refine Yp 9 rfl (by kernel_rfl) (fun _ _ _ _ h => h) hK ?_
   refine Yp 10 rfl (by kernel_rfl) (fun _ _ _ _ h => h) hK ?_
   refine Yp 11 rfl (by kernel_rfl) (fun _ _ _ _ h => h) hK ?_
   refine Yp 12 rfl (by kernel_rfl) (fun _ _ _ _ h => h) hK ?_
   refine Yp 13 rfl (by kernel_rfl) (fun _ _ _ _ h => h) hK ?_
   refine Yp 14 rfl (by kernel_rfl) (fun _ _ _ _ h => h) hK ?_
   refine Yp 15 rfl (by kernel_rfl) (fun _ _ _ _ h => h) hK ?_
   refine ga_done (by kernel_rfl) ?_
   refine hK12 _ _ (gc_seq fun K13 hK13 => gc_region (Zp rfl (Zp rfl (Zp rfl (gl_callf rfl rfl rfl rfl Tryz.func30 rfl rfl rfl (rdFail_calls g _ A l.length c s5 (readTextV l s5.a 128).2.2 s5.a _ _ hS) ?_)))))
   rintro _ w69 ⟨rfl, hS⟩
   refine ⟨_, rfl, ?_⟩
   refine gl_nil (hK13 _ _ (gc_cut (fun a' w' => ∃ (s6 : RS) (tt : ByteArray), Fr 106 a' [(0, .pointer (some ⟨g, 0, none⟩)), (5, .int .i64 s5.a), (6, .int .i64 (n : Nat)), (7, .slice AN N.length cN), (8, .int .i64 (i : Nat)), (9, .string tt)] ∧ 0 ≤ s6.a ∧ (s6.e = 0 → s6.a ≤ l.length) ∧ tt.size ≤ l.length ∧ LvG T s6 (if nameV tt = false ∨ tt ∈ N then .error (67, s5.a) else dnNs l s0 xs (n - (i + 1)) (N ++ [tt]) s6.a) ∧ St B w0 w' (.blk g 72 (rsC A l.length c (s6)) :: .row AN cN 9 1 N.length (N.map tV) :: L)) ?_ ?_))
   ·refine gc_region (Zp rfl (Zp rfl (Zp rfl (Zf 1 Tryz.underlying72 rfl el3 (gl_store 0 hS el3.cellsOf.1 el3.cellsOf.2 rfl rfl rfl rfl rfl rfl rfl rfl fun w_232 hS => ?_)))))
    refine gl_nil ?_
    intro a' ha
    refine ⟨rsX l s5, (readTextV l s5.a 128).1, ha.sub ⟨rfl, rfl, rfl, rfl, rfl, rfl, trivial⟩, htx.1, (fun h => ?_), htx.2, hLX, hS⟩
    have h1 := (rsX_live h).2
    have hr2 : rT l s5.a = .ok ((readTextV l s5.a 128).1, (readTextV l s5.a 128).2.1) := by unfold rT; rw [if_pos h1]
    exact (rT_ok hr2 ⟨hsa5, (hs5 he5).2⟩).2.1
   rintro a' w1 ⟨s6, tt, hF, hsa6, hsl6, htt, hL6, hS⟩
   refine gc_of hF ?_
   clear hF hLX htx
   refine gc_seq fun K14 hK14 => gc_seq fun K15 hK15 => gc_region (Zp rfl (Zp rfl (Zf 2 Tryz.underlying72 rfl el3 (Zb 0 hS rfl (Zp rfl (gl_nil (hK15 _ _ (gc_cond rfl rfl (fun c78 => ?_) (fun c78 => ?_)))))))))
   ·simp only [NN, reduceCtorEq] at c78
    refine gc_seq fun K16 hK16 => gc_region (Zp rfl (Zp rfl (gl_nil (hK16 _ _ (gc_ret ?_)))))
    simp only [XR]
    refine gk_ret1 rfl rfl ?_
    exact ⟨s6, N, AN, cN, rfl, hsa6, fun h => absurd h (by omega), hL6.dead (by omega), by omega, hS⟩
   simp only [NN, reduceCtorEq] at c78
   refine gc_skip (hK14 _ _ (gc_seq fun K17 hK17 => gc_region (Zp rfl (gl_callf rfl rfl rfl rfl Tryz.func63 rfl rfl rfl (rname_calls tt (by omega) _) ?_))))
   rintro _ w81 ⟨rfl, hb81⟩
   refine ⟨_, rfl, ?_⟩
   have hS := hS.grown hb81
   refine Zp rfl (Zp rfl (gl_nil (hK17 _ _ (gc_seq fun K18 hK18 => gc_seq fun K19 hK19 => gc_region (Zp rfl (gl_nil (hK19 _ _ (gc_block (gc_loop (fun kk a' w' => ∃ (j : Nat) (bd : Bool), Fr 106 a' [(0, .pointer (some ⟨g, 0, none⟩)), (5, .int .i64 s5.a), (6, .int .i64 (n : Nat)), (7, .slice AN N.length cN), (8, .int .i64 (i : Nat)), (9, .string tt), (12, .bool bd), (13, .int .i64 (j : Nat))] ∧ j ≤ i ∧ kk = i + 1 - j ∧ (bd = true ↔ (nameV tt = false ∨ tt ∈ N.take j)) ∧ St B w0 w' (.blk g 72 (rsC A l.length c (s6)) :: .row AN cN 9 1 N.length (N.map tV) :: L)) (i + 1) ?_ ?_ ?_)))))))))
   ·intro a' ha; exact ⟨0, _, ha.sub ⟨rfl, rfl, rfl, rfl, rfl, rfl, rfl, rfl, trivial⟩, by omega, by omega, by simp, hS⟩
   ·rintro a' w' ⟨j, _, _, h1, h2, _⟩; omega
   clear hS
   rintro kk2 a' w1 ⟨j, bd, hF, hj, hkj, hbd, hS⟩
   refine gc_of hF ?_
   clear hF
   refine gc_seq fun K20 hK20 => gc_seq fun K21 hK21 => gc_region (Zp rfl (Zp rfl (Zp rfl (gl_nil (hK21 _ _ (gc_cond rfl rfl (fun c85 => ?_) (fun c85 => ?_)))))))
   ·simp only [NN, reduceCtorEq] at c85
    have hjl : j < i := by omega
    obtain ⟨u, hu⟩ : ∃ u, N[j]? = some u := ⟨_, List.getElem?_eq_getElem (by omega)⟩
    refine gc_skip (hK20 _ _ (gc_seq fun K22 hK22 => gc_block (gc_region (Zp rfl (Zp rfl (gl_split (t := 89) rfl (fun c89 => ?_) (fun c89 => ?_)))))))
    ·refine Zs rfl (Zs rfl (Zs rfl (Zs rfl (Zs rfl (Zs rfl (Zp rfl (Zp rfl (gl_nil (hK22 _ _ (gc_region (Zp rfl (Zi rfl (by omega) ?_))))))))))))
     refine Zp rfl (gl_nil ?_)
     intro a' ha
     refine ⟨j + 1, _, ha.sub ⟨rfl, rfl, rfl, rfl, rfl, rfl, rfl, rfl, trivial⟩, by omega, by omega, ?_, hS⟩
     rw [take_mem hu]
     rw [c89] at hbd; exact ⟨fun _ => (hbd.1 rfl).imp id .inl, fun _ => rfl⟩
    refine Zu rfl (Zp rfl (Zu rfl (Zp rfl (Zu rfl ?_))))
    obtain ⟨adN, hA, hcl⟩ := (hS.rdE (l := N) (enc := tV) (i := 1) rfl).at ⟨#[]⟩ (i := (j : Int)) (by omega) (by omega)
    have hug : N.getD ((j : Int)).toNat ⟨#[]⟩ = u := by rw [Int.toNat_natCast, List.getD_eq_getElem?_getD, hu]; rfl
    rw [hug] at hcl
    refine gl_op rfl rfl rfl (op_indexAddr hT rfl rfl el9.cellsOf.1 el9.cellsOf.2 rfl rfl (by omega) (by omega) hA) ?_
    refine Zu rfl (gl_op rfl rfl rfl (op_load hT rfl rfl rfl rfl hcl) ?_)
    refine Zu rfl (Zp rfl (Zu rfl (Zp rfl (Zp rfl (Zp rfl (gl_nil (hK22 _ _ (gc_region (Zp rfl (Zi rfl (by omega) ?_))))))))))
    refine Zp rfl (gl_nil ?_)
    intro a' ha
    refine ⟨j + 1, _, ha.sub ⟨rfl, rfl, rfl, rfl, rfl, rfl, rfl, rfl, trivial⟩, by omega, by omega, ?_, hS⟩
    rw [take_mem hu]
    rw [decide_eq_true_eq]; exact ⟨fun h => .inr (.inr h.symm), fun h => by
     rcases h with h | h | h
     ·exact absurd (hbd.2 (.inl h)) (by rw [c89]; decide)
     ·exact absurd (hbd.2 (.inr h)) (by rw [c89]; decide)
     exact h.symm⟩
   simp only [NN, reduceCtorEq] at c85
   have hji : N.take j = N := List.take_of_length_le (by omega)
   rw [hji] at hbd
   have he6 : s6.e = 0 := by omega
   have hLs := lvgI (l := l) (by decide : (67 : Int) ≠ 0) hL6
   refine gc_exit ?_
   refine hK18 _ _ (gc_cut (fun a' w' => ∃ (s7 : RS), Fr 106 a' [(0, .pointer (some ⟨g, 0, none⟩)), (6, .int .i64 (n : Nat)), (7, .slice AN N.length cN), (8, .int .i64 (i : Nat)), (9, .string tt)] ∧ 0 ≤ s7.a ∧ (s7.e = 0 → s7.a ≤ l.length) ∧ LvG T s7 (dnNs l s0 xs (n - (i + 1)) (N ++ [tt]) s7.a) ∧ St B w0 w' (.blk g 72 (rsC A l.length c (s7)) :: .row AN cN 9 1 N.length (N.map tV) :: L)) ?_ ?_)
   ·refine gc_seq fun K23 hK23 => gc_region (Zp rfl (gl_nil (hK23 _ _ (gc_cond rfl rfl (fun c97 => ?_) (fun c97 => ?_)))))
    ·refine gc_region (Zp rfl (Zp rfl (gl_callf rfl rfl rfl rfl Tryz.func30 rfl rfl rfl (rdFail_calls g _ A l.length c s6 67 s5.a _ _ hS) ?_)))
     rintro _ w100 ⟨rfl, hS⟩
     refine ⟨_, rfl, ?_⟩
     refine gl_nil ?_
     intro a' ha
     exact ⟨s6.fl 67 s5.a, ha.sub ⟨rfl, rfl, rfl, rfl, rfl, trivial⟩, (by rw [fl_a]; exact hsa6), (fun h => by rw [fl_a]; exact hsl6 (fl_live h)), hLs.1 ⟨he6, hbd.1 c97⟩ _, hS⟩
    refine gc_skip ?_
    intro a' ha
    exact ⟨s6, ha.sub ⟨rfl, rfl, rfl, rfl, rfl, trivial⟩, hsa6, hsl6, hLs.2 (fun h => by rw [hbd.2 h.2] at c97; cases c97), hS⟩
   rintro a' w1 ⟨s7, hF, hsa7, hsl7, hL7, hS⟩
   refine gc_of hF ?_
   clear hF
   refine gc_region (Zp rfl (Zp rfl (gl_lit hT hS el9 rfl rfl rfl rfl rfl rfl rfl rfl rfl fun g103 w103 hS => ?_)))
   have hS := hS.moveIn 2
   refine gl_append 1 hT hS el9 (hS.rd (i := 2) rfl) (rfl) rfl rfl rfl rfl rfl rfl rfl rfl (by first | omega | (simp; omega)) (by first | omega | (simp; omega)) fun A104 c104 w104 hS => ?_
   have hS := hS.erase 2
   refine Zp rfl (gl_nil (hK10 _ _ (gc_region (Zp rfl (Zi rfl (by omega) ?_)))))
   refine Zp rfl (gl_nil ?_)
   intro a' ha
   refine ⟨i + 1, N ++ [tt], s7, A104, c104, ha.sub ⟨rfl, rfl, ?_, rfl, trivial⟩, by omega, by omega, by rw [List.length_append, hNl]; rfl, by omega, hsa7, fun h => ⟨(hs5 he5).1, hsl7 h⟩, hL7, ?_⟩
   ·rw [List.length_append]; rfl
   rw [List.map_append, List.length_append]
   exact hS
  simp only [NN, reduceCtorEq] at c46
  refine gc_exit ?_
  refine hK6 _ _ (gc_seq fun K24 hK24 => gc_region (Zp rfl (Zp rfl (gl_nil (hK24 _ _ (gc_ret (gk_ret1 rfl rfl ?_)))))))
  refine ⟨s5, N, AN, cN, rfl, hsa5, fun h => ⟨(hs2 (hs5 h).1).1, (hs5 h).2⟩, ?_, by omega, hS⟩
  by_cases h5 : s5.e = 0
  ·have e : n - i = 0 := by omega
   rw [e] at hL
   exact hL
  exact hL.dead h5
 simp only [NN, reduceCtorEq] at c40
 refine Zs rfl (Zs rfl (Zs rfl (Zs rfl (Zs rfl (Zp rfl (gl_nil (hK9 _ _ (gc_cond_f rfl (gc_exit ?_)))))))))
 refine hK6 _ _ (gc_seq fun K25 hK25 => gc_region (Zp rfl (Zp rfl (gl_nil (hK25 _ _ (gc_ret (gk_ret1 rfl rfl ?_)))))))
 refine ⟨s5, N, AN, cN, rfl, hsa5, fun h => ⟨(hs2 (hs5 h).1).1, (hs5 h).2⟩, ?_, by omega, hS⟩
 by_cases h5 : s5.e = 0
 ·have e : n - i = 0 := by omega
  rw [e] at hL
  exact hL
 exact hL.dead h5
end Go.Proofs.YtnomlloaahoceaaGreatDoor
