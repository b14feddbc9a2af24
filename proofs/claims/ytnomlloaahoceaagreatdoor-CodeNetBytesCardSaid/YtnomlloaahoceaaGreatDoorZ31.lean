/- Contracts of functions that CodeNetBytes reaches, and words to say them. No condition. -/
import Derived.Test.YtnomlloaahoceaaGreatDoorZ30
import Derived.Test.YtnomlloaahoceaaGreatDoorZ11
import Derived.Test.YtnomlloaahoceaaGreatDoorZ03
/- Contracts: a network as bits. No condition. -/
namespace Go.Proofs.YtnomlloaahoceaaGreatDoor
open Go.RowKit
set_option linter.unusedVariables false
set_option linter.unusedSimpArgs false
theorem wth_ok {L : Ly} (h : L.ok) (W B Z Y : Sv) : (wth L W B Z Y).ok := ⟨h.k, h.out, h.kh, h.kw, h.sh, h.sw, h.ph, h.pw, h.fr, h.a⟩
theorem mParts_calls (z : Nat × Nat) (w : World) : Calls Tryz.prog 69 ⟨[cV z]⟩ w fun e w' => e = .returned (.tuple #[uV z.1, uV z.2]) ∧ Eqv w w' := by
 refine gc_enter (N := 10) Tryz.func69 rfl rfl rfl [(0, _)] rfl ?_
 refine gc_seq fun K1 hK1 => gc_region (Zp rfl (Zp rfl (gl_nil (hK1 _ _ (gc_seq fun K2 hK2 => gc_region (Zp rfl (gl_op rfl rfl rfl (op_real rfl rfl) ?_)))))))
 refine gl_callf rfl rfl rfl rfl Tryz.func67 rfl rfl rfl (mBits_calls z.1 _) ?_
 rintro _ _ ⟨rfl, n6, rfl⟩
 refine ⟨_, rfl, ?_⟩
 refine Zp rfl (gl_op rfl rfl rfl (op_imag rfl rfl) ?_)
 refine gl_callf rfl rfl rfl rfl Tryz.func67 rfl rfl rfl (mBits_calls z.2 _) ?_
 rintro _ _ ⟨rfl, n9, rfl⟩
 refine ⟨_, rfl, ?_⟩
 refine Zp rfl (Zp rfl (gl_nil (hK2 _ _ (gc_ret (gk_ret2 rfl rfl rfl ?_)))))
 exact ⟨rfl, Eqv.trans ⟨_, rfl⟩ ⟨_, rfl⟩⟩
set_option maxHeartbeats 4000000 in
set_option maxRecDepth 100000 in
theorem ofLayer_calls (L : Ly) (lw lb : List Nat) (lz lzb : List (Nat × Nat)) (w : World) {ok : Nat → Prop} (D : LyM w ok ⟨L, lw, lb, lz, lzb⟩) (hlZ : lz.length ≤ 65536) (hlY : lzb.length ≤ 65536) :
 Calls Tryz.prog 37 ⟨[.agg ⟨lyC L⟩]⟩ w fun e w' => ∃ (L' : Ly) (K : Nat → Prop), e = .returned (.agg ⟨rlC L'⟩) ∧ bare L' = bare L ∧ St w.heap.size w w' [.keep K w'] ∧ LyU w' K ⟨L', lw, lb, lz, lzb⟩ := by
 have nZ : L.Z.2.1 = lz.length := D.nZ
 have nY : L.ZB.2.1 = lzb.length := D.nZB
 have rZ : RdE w ok cV L.Z.1 lz := D.rZ
 have rY : RdE w ok cV L.ZB.1 lzb := D.rZB
 refine gc_enter (N := 87) Tryz.func37 rfl rfl rfl [(0, _)] rfl ?_
 have hS := St.start w
 refine gc_seq fun K1 hK1 => gc_region (gl_box hS rfl rfl rfl rfl rfl fun g1 w1 hS => ?_)
 refine gl_alloc el81 hS rfl rfl rfl rfl fun g2 w2 hS => ?_
 refine gl_nil (hK1 _ _ (gc_cut (fun a w' => ∃ (g1 g2 g3 : Nat) (AW AB : Option Addr) (cW cB : Nat), Fr 87 a [(1, .pointer (some ⟨g1, 0, none⟩)), (2, .pointer (some ⟨g2, 0, none⟩)), (3, .pointer (some ⟨g3, 0, none⟩))] ∧ St w.heap.size w w' [.blk g1 48 (lyC L), .blk g2 81 zL, .blk g3 81 (rlC (wth L (AW, lw.length, cW) (AB, lb.length, cB) (nilS) (nilS))), .row AW cW 77 1 lw.length (lw.map uV), .row AB cB 77 1 lb.length (lb.map uV)]) ?_ ?_))
 ·refine gc_anyS (hS.blank 1) (by kernel_rfl) rfl fun nq1 hK => ?_
  have hS := hS.dr nq1
  refine Yf 0 0 Tryz.underlying48 rfl el3 (by kernel_rfl) (fun _ _ _ _ h => h) hK ?_
  refine Yb 1 0 rfl (by kernel_rfl) (fun _ _ _ _ h => h) hK ?_
  refine Yf 2 1 Tryz.underlying48 rfl el3 (by kernel_rfl) (fun _ _ _ _ h => h) hK ?_
  refine Yb 3 0 rfl (by kernel_rfl) (fun _ _ _ _ h => h) hK ?_
  refine Yf 4 2 Tryz.underlying48 rfl el3 (by kernel_rfl) (fun _ _ _ _ h => h) hK ?_
  refine Yb 5 0 rfl (by kernel_rfl) (fun _ _ _ _ h => h) hK ?_
  refine Yf 6 3 Tryz.underlying48 rfl el3 (by kernel_rfl) (fun _ _ _ _ h => h) hK ?_
  refine Yb 7 0 rfl (by kernel_rfl) (fun _ _ _ _ h => h) hK ?_
  refine Yf 8 4 Tryz.underlying48 rfl el3 (by kernel_rfl) (fun _ _ _ _ h => h) hK ?_
  refine Yb 9 0 rfl (by kernel_rfl) (fun _ _ _ _ h => h) hK ?_
  refine Yf 10 5 Tryz.underlying48 rfl el3 (by kernel_rfl) (fun _ _ _ _ h => h) hK ?_
  refine Yb 11 0 rfl (by kernel_rfl) (fun _ _ _ _ h => h) hK ?_
  refine Yf 12 6 Tryz.underlying48 rfl el3 (by kernel_rfl) (fun _ _ _ _ h => h) hK ?_
  refine Yb 13 0 rfl (by kernel_rfl) (fun _ _ _ _ h => h) hK ?_
  refine Yf 14 7 Tryz.underlying48 rfl el3 (by kernel_rfl) (fun _ _ _ _ h => h) hK ?_
  refine Yb 15 0 rfl (by kernel_rfl) (fun _ _ _ _ h => h) hK ?_
  refine Yf 16 8 Tryz.underlying48 rfl el3 (by kernel_rfl) (fun _ _ _ _ h => h) hK ?_
  refine Yb 17 0 rfl (by kernel_rfl) (fun _ _ _ _ h => h) hK ?_
  refine Yf 18 9 Tryz.underlying48 rfl el44 (by kernel_rfl) (fun _ _ _ _ h => h) hK ?_
  refine Yb 19 0 rfl (by kernel_rfl) (fun _ _ _ _ h => h) hK ?_
  refine Yf 21 10 Tryz.underlying48 rfl el45 (by kernel_rfl) (fun _ _ _ _ h => h) hK ?_
  refine Yb 22 0 rfl (by kernel_rfl) (fun _ _ _ _ h => h) hK ?_
  refine Yf 24 11 Tryz.underlying48 rfl el45 (by kernel_rfl) (fun _ _ _ _ h => h) hK ?_
  refine Yb 25 0 rfl (by kernel_rfl) (fun _ _ _ _ h => h) hK ?_
  refine ga_two 20 28 (by kernel_rfl) rfl rfl ?_ ?_
  ·refine gl_callf rfl rfl rfl rfl Tryz.func67 rfl rfl rfl (mBits_calls L.a _) ?_
   rintro _ _ ⟨rfl, n30, rfl⟩
   refine ⟨_, rfl, ?_⟩
   have hS := hS.dr n30
   refine gl_nil (ga_next ((hS.blank 1).pre 2) fun hK => ?_)
   refine ga_two 23 28 (by kernel_rfl) rfl rfl ?_ ?_
   ·refine gl_callf rfl rfl rfl rfl Tryz.func68 rfl rfl rfl (bits_calls _ _ _ lw _ (D.rW.old hS) D.nW D.lW) ?_
    rintro _ w33 ⟨A33, c33, rfl, h33⟩
    refine ⟨_, rfl, ?_⟩
    have hS := hS.more h33
    refine gl_nil (ga_next ((hS.blank 1).pre 2) fun hK => ?_)
    refine ga_two 26 28 (by kernel_rfl) rfl rfl ?_ ?_
    ·refine gl_callf rfl rfl rfl rfl Tryz.func68 rfl rfl rfl (bits_calls _ _ _ lb _ (D.rB.old hS) D.nB D.lB) ?_
     rintro _ w36 ⟨A36, c36, rfl, h36⟩
     refine ⟨_, rfl, ?_⟩
     have hS := hS.more h36
     refine gl_nil (ga_next ((hS.blank 1).pre 2) fun hK => ?_)
     refine ga_take 27 rfl rfl rfl rfl (by kernel_rfl) (fun _ _ _ _ h => h) hK (fun w1 hS => op_buildG rfl plan81 rfl rfl) ?_
     refine ga_one 28 (by kernel_rfl) rfl ?_
     refine gl_alloc el81 hS rfl rfl rfl rfl fun g3 w3 hS => ?_
     refine gl_nil (ga_next ((hS.blank 1).pre 2) fun hK => ?_)
     refine ga_one 29 (by kernel_rfl) rfl ?_
     refine gl_storeM 4 hS el81 rfl rfl rfl rfl rfl rfl rfl rfl rfl fun w_45 hS => ?_
     refine gl_nil (ga_next ((hS.blank 1).pre 2) fun hK => ?_)
     refine ga_done (by kernel_rfl) ?_
     intro a ha
     exact ⟨g1, g2, g3, A33, A36, c33, c36, ha.sub ⟨rfl, rfl, rfl, trivial⟩, hS.permute (.cons _ (.cons _ (List.perm_append_comm (l₁ := [_, _]) (l₂ := [_]))))⟩
    refine gl_alloc el81 hS rfl rfl rfl rfl fun g3 w3 hS => ?_
    refine gl_nil (ga_next ((hS.blank 1).pre 2) fun hK => ?_)
    refine ga_one 26 (by kernel_rfl) rfl ?_
    refine gl_callf rfl rfl rfl rfl Tryz.func68 rfl rfl rfl (bits_calls _ _ _ lb _ (D.rB.old hS) D.nB D.lB) ?_
    rintro _ w36 ⟨A36, c36, rfl, h36⟩
    refine ⟨_, rfl, ?_⟩
    have hS := hS.more h36
    refine gl_nil (ga_next ((hS.blank 1).pre 2) fun hK => ?_)
    refine ga_take 27 rfl rfl rfl rfl (by kernel_rfl) (fun _ _ _ _ h => h) hK (fun w1 hS => op_buildG rfl plan81 rfl rfl) ?_
    refine ga_one 29 (by kernel_rfl) rfl ?_
    refine gl_storeM 3 hS el81 rfl rfl rfl rfl rfl rfl rfl rfl rfl fun w_45 hS => ?_
    refine gl_nil (ga_next ((hS.blank 1).pre 2) fun hK => ?_)
    refine ga_done (by kernel_rfl) ?_
    intro a ha
    exact ⟨g1, g2, g3, A33, A36, c33, c36, ha.sub ⟨rfl, rfl, rfl, trivial⟩, hS.permute (.cons _ (.cons _ (.swap _ _ _)))⟩
   refine gl_alloc el81 hS rfl rfl rfl rfl fun g3 w3 hS => ?_
   refine gl_nil (ga_next ((hS.blank 1).pre 2) fun hK => ?_)
   refine ga_one 23 (by kernel_rfl) rfl ?_
   refine gl_callf rfl rfl rfl rfl Tryz.func68 rfl rfl rfl (bits_calls _ _ _ lw _ (D.rW.old hS) D.nW D.lW) ?_
   rintro _ w33 ⟨A33, c33, rfl, h33⟩
   refine ⟨_, rfl, ?_⟩
   have hS := hS.more h33
   refine gl_nil (ga_next ((hS.blank 1).pre 2) fun hK => ?_)
   refine ga_one 26 (by kernel_rfl) rfl ?_
   refine gl_callf rfl rfl rfl rfl Tryz.func68 rfl rfl rfl (bits_calls _ _ _ lb _ (D.rB.old hS) D.nB D.lB) ?_
   rintro _ w36 ⟨A36, c36, rfl, h36⟩
   refine ⟨_, rfl, ?_⟩
   have hS := hS.more h36
   refine gl_nil (ga_next ((hS.blank 1).pre 2) fun hK => ?_)
   refine ga_take 27 rfl rfl rfl rfl (by kernel_rfl) (fun _ _ _ _ h => h) hK (fun w1 hS => op_buildG rfl plan81 rfl rfl) ?_
   refine ga_one 29 (by kernel_rfl) rfl ?_
   refine gl_storeM 2 hS el81 rfl rfl rfl rfl rfl rfl rfl rfl rfl fun w_45 hS => ?_
   refine gl_nil (ga_next ((hS.blank 1).pre 2) fun hK => ?_)
   refine ga_done (by kernel_rfl) ?_
   intro a ha
   exact ⟨g1, g2, g3, A33, A36, c33, c36, ha.sub ⟨rfl, rfl, rfl, trivial⟩, hS⟩
  refine gl_alloc el81 hS rfl rfl rfl rfl fun g3 w3 hS => ?_
  refine gl_nil (ga_next ((hS.blank 1).pre 2) fun hK => ?_)
  refine ga_one 20 (by kernel_rfl) rfl ?_
  refine gl_callf rfl rfl rfl rfl Tryz.func67 rfl rfl rfl (mBits_calls L.a _) ?_
  rintro _ _ ⟨rfl, n30, rfl⟩
  refine ⟨_, rfl, ?_⟩
  have hS := hS.dr n30
  refine gl_nil (ga_next ((hS.blank 1).pre 2) fun hK => ?_)
  refine ga_one 23 (by kernel_rfl) rfl ?_
  refine gl_callf rfl rfl rfl rfl Tryz.func68 rfl rfl rfl (bits_calls _ _ _ lw _ (D.rW.old hS) D.nW D.lW) ?_
  rintro _ w33 ⟨A33, c33, rfl, h33⟩
  refine ⟨_, rfl, ?_⟩
  have hS := hS.more h33
  refine gl_nil (ga_next ((hS.blank 1).pre 2) fun hK => ?_)
  refine ga_one 26 (by kernel_rfl) rfl ?_
  refine gl_callf rfl rfl rfl rfl Tryz.func68 rfl rfl rfl (bits_calls _ _ _ lb _ (D.rB.old hS) D.nB D.lB) ?_
  rintro _ w36 ⟨A36, c36, rfl, h36⟩
  refine ⟨_, rfl, ?_⟩
  have hS := hS.more h36
  refine gl_nil (ga_next ((hS.blank 1).pre 2) fun hK => ?_)
  refine ga_take 27 rfl rfl rfl rfl (by kernel_rfl) (fun _ _ _ _ h => h) hK (fun w1 hS => op_buildG rfl plan81 rfl rfl) ?_
  refine ga_one 29 (by kernel_rfl) rfl ?_
  refine gl_storeM 2 hS el81 rfl rfl rfl rfl rfl rfl rfl rfl rfl fun w_45 hS => ?_
  refine gl_nil (ga_next ((hS.blank 1).pre 2) fun hK => ?_)
  refine ga_done (by kernel_rfl) ?_
  intro a ha
  exact ⟨g1, g2, g3, A33, A36, c33, c36, ha.sub ⟨rfl, rfl, rfl, trivial⟩, hS⟩
 rintro a w1 ⟨g1, g2, g3, AW, AB, cW, cB, hF, hS⟩
 refine gc_of hF ?_
 clear hF
 refine gc_cut (fun a w' => ∃ (AZ : Option Addr) (cZ : Nat), Fr 87 a [(1, .pointer (some ⟨g1, 0, none⟩)), (2, .pointer (some ⟨g2, 0, none⟩)), (3, .pointer (some ⟨g3, 0, none⟩))] ∧ St w.heap.size w w' [.blk g1 48 (lyC L), .blk g2 81 zL, .blk g3 81 (rlC (wth L (AW, lw.length, cW) (AB, lb.length, cB) (AZ, lz.length, cZ) (nilS))), .row AW cW 77 1 lw.length (lw.map uV), .row AB cB 77 1 lb.length (lb.map uV), .row AZ cZ 136 2 lz.length ((lz).map pC).flatten]) ?_ ?_
 ·refine gc_seq fun K2 hK2 => gc_region (Zp rfl (gl_nil (hK2 _ _ (gc_block ?_))))
  have hS : St w.heap.size w _ [.blk g1 48 (lyC L), .blk g2 81 zL, .blk g3 81 (rlC (wth L (AW, lw.length, cW) (AB, lb.length, cB) (none, 0, 0) (nilS))), .row AW cW 77 1 lw.length (lw.map uV), .row AB cB 77 1 lb.length (lb.map uV), .row none 0 136 2 0 []] := hS.nil 136 2
  refine gc_loop (fun kk a' w' => ∃ (i : Nat) (A' : Option Addr) (c' : Nat), Fr 87 a' [(1, .pointer (some ⟨g1, 0, none⟩)), (2, .pointer (some ⟨g2, 0, none⟩)), (3, .pointer (some ⟨g3, 0, none⟩)), (4, .int .i64 (i : Nat))] ∧ i ≤ lz.length ∧ kk = lz.length + 1 - i ∧ St w.heap.size w w' [.blk g1 48 (lyC L), .blk g2 81 zL, .blk g3 81 (rlC (wth L (AW, lw.length, cW) (AB, lb.length, cB) (A', i, c') (nilS))), .row AW cW 77 1 lw.length (lw.map uV), .row AB cB 77 1 lb.length (lb.map uV), .row A' c' 136 2 i ((lz.take i).map pC).flatten]) (lz.length + 1) ?_ ?_ ?_
  ·intro a' ha; exact ⟨0, none, 0, ha.sub ⟨rfl, rfl, rfl, rfl, trivial⟩, by omega, by omega, hS⟩
  ·rintro a' w' ⟨i, _, _, _, h1, h2, _⟩; omega
  clear hS
  rintro kk a' w1 ⟨i, A', c', hF, hi, hk, hS⟩
  refine gc_of hF ?_
  clear hF
  refine gc_seq fun K3 hK3 => gc_seq fun K4 hK4 => gc_region (Zp rfl (Zf 12 Tryz.underlying48 rfl el46 (Zb 0 hS rfl (Zp rfl (Zp rfl (gl_nil (hK4 _ _ (gc_cond rfl rfl (fun c42 => ?_) (fun c42 => ?_)))))))))
  ·simp only [NN, reduceCtorEq] at c42
   refine gc_skip (hK3 _ _ (gc_seq fun K5 hK5 => gc_block (gc_seq fun K6 hK6 => gc_region (Zf 12 Tryz.underlying48 rfl el46 (Zb 0 hS rfl (Zp rfl ?_))))))
   have hil : i < lz.length := by omega
   obtain ⟨z, hz⟩ : ∃ z, lz[i]? = some z := ⟨_, List.getElem?_eq_getElem hil⟩
   obtain ⟨ad, hA, hc⟩ := (RdE.old rZ hS).at (0, 0) (i := (i : Int)) (by omega) (by omega)
   have hzg : lz.getD ((i : Int)).toNat (0, 0) = z := by rw [Int.toNat_natCast, List.getD_eq_getElem?_getD, hz]; rfl
   rw [hzg] at hc
   have htake : lz.take (i + 1) = lz.take i ++ [z] := by rw [List.take_add_one, hz]; rfl
   refine gl_op rfl rfl rfl (op_indexAddr hT rfl rfl el98.cellsOf.1 el98.cellsOf.2 rfl rfl (by omega) (by omega) hA) ?_
   refine gl_op rfl rfl rfl (op_load hT rfl rfl rfl rfl hc) ?_
   refine gl_callf rfl rfl rfl rfl Tryz.func69 rfl rfl rfl (mParts_calls z _) ?_
   rintro _ _ ⟨rfl, n51, rfl⟩
   refine ⟨_, rfl, ?_⟩
   have hS := hS.dr n51
   refine Zp rfl (Zp rfl (Zp rfl (Zp rfl (Zp rfl (gl_nil (hK6 _ _ (gc_region (Zf 12 Tryz.underlying81 rfl el79 (Zb 2 hS rfl (Zp rfl (Zp rfl (gl_op rfl rfl rfl (op_buildG rfl plan136 rfl rfl) ?_))))))))))))
   refine gl_litS hT hS el136 rfl rfl rfl rfl rfl rfl rfl (by decide) fun g59 w59 hS => ?_
   refine gl_append 5 hT hS el136 (hS.rd (i := 6) rfl) rfl rfl rfl rfl rfl rfl rfl rfl rfl (by simp only; omega) (by simp only; omega) fun A60 c60 w60 hS => ?_
   refine Zf 12 Tryz.underlying81 rfl el79 (gl_store 2 hS el79.cellsOf.1 el79.cellsOf.2 rfl rfl rfl rfl rfl rfl rfl rfl fun w_48 hS => ?_)
   refine gl_nil (hK5 _ _ (gc_region (Zp rfl (Zi rfl (by omega) ?_))))
   refine Zp rfl (gl_nil ?_)
   intro a' ha
   refine ⟨i + 1, A60, c60, ha.sub ⟨rfl, rfl, rfl, rfl, trivial⟩, by omega, by omega, ?_⟩
   rw [htake, flat_snoc]
   exact hS.erase 6
  simp only [NN, reduceCtorEq] at c42
  refine gc_exit ?_
  intro a ha
  have hie : i = lz.length := by omega
  subst hie
  rw [List.take_length] at hS
  exact ⟨A', c', ha.sub ⟨rfl, rfl, rfl, trivial⟩, hS⟩
 rintro a w1 ⟨AZ, cZ, hF, hS⟩
 refine gc_of hF ?_
 clear hF
 refine gc_seq fun K7 hK7 => gc_seq fun K8 hK8 => gc_region (Zp rfl (gl_nil (hK8 _ _ (gc_block ?_))))
 have hS : St w.heap.size w _ [.blk g1 48 (lyC L), .blk g2 81 zL, .blk g3 81 (rlC (wth L (AW, lw.length, cW) (AB, lb.length, cB) (AZ, lz.length, cZ) (none, 0, 0))), .row AW cW 77 1 lw.length (lw.map uV), .row AB cB 77 1 lb.length (lb.map uV), .row AZ cZ 136 2 lz.length ((lz).map pC).flatten, .row none 0 136 2 0 []] := hS.nil 136 2
 refine gc_loop (fun kk a' w' => ∃ (i : Nat) (A' : Option Addr) (c' : Nat), Fr 87 a' [(1, .pointer (some ⟨g1, 0, none⟩)), (2, .pointer (some ⟨g2, 0, none⟩)), (3, .pointer (some ⟨g3, 0, none⟩)), (7, .int .i64 (i : Nat))] ∧ i ≤ lzb.length ∧ kk = lzb.length + 1 - i ∧ St w.heap.size w w' [.blk g1 48 (lyC L), .blk g2 81 zL, .blk g3 81 (rlC (wth L (AW, lw.length, cW) (AB, lb.length, cB) (AZ, lz.length, cZ) (A', i, c'))), .row AW cW 77 1 lw.length (lw.map uV), .row AB cB 77 1 lb.length (lb.map uV), .row AZ cZ 136 2 lz.length ((lz).map pC).flatten, .row A' c' 136 2 i ((lzb.take i).map pC).flatten]) (lzb.length + 1) ?_ ?_ ?_
 ·intro a' ha; exact ⟨0, none, 0, ha.sub ⟨rfl, rfl, rfl, rfl, trivial⟩, by omega, by omega, hS⟩
 ·rintro a' w' ⟨i, _, _, _, h1, h2, _⟩; omega
 clear hS
 rintro kk a' w1 ⟨i, A', c', hF, hi, hk, hS⟩
 refine gc_of hF ?_
 clear hF
 refine gc_seq fun K9 hK9 => gc_seq fun K10 hK10 => gc_region (Zp rfl (Zf 13 Tryz.underlying48 rfl el46 (Zb 0 hS rfl (Zp rfl (Zp rfl (gl_nil (hK10 _ _ (gc_cond rfl rfl (fun c66 => ?_) (fun c66 => ?_)))))))))
 ·simp only [NN, reduceCtorEq] at c66
  refine gc_skip (hK9 _ _ (gc_seq fun K11 hK11 => gc_block (gc_seq fun K12 hK12 => gc_region (Zf 13 Tryz.underlying48 rfl el46 (Zb 0 hS rfl (Zp rfl ?_))))))
  have hil : i < lzb.length := by omega
  obtain ⟨z, hz⟩ : ∃ z, lzb[i]? = some z := ⟨_, List.getElem?_eq_getElem hil⟩
  obtain ⟨ad, hA, hc⟩ := (RdE.old rY hS).at (0, 0) (i := (i : Int)) (by omega) (by omega)
  have hzg : lzb.getD ((i : Int)).toNat (0, 0) = z := by rw [Int.toNat_natCast, List.getD_eq_getElem?_getD, hz]; rfl
  rw [hzg] at hc
  have htake : lzb.take (i + 1) = lzb.take i ++ [z] := by rw [List.take_add_one, hz]; rfl
  refine gl_op rfl rfl rfl (op_indexAddr hT rfl rfl el98.cellsOf.1 el98.cellsOf.2 rfl rfl (by omega) (by omega) hA) ?_
  refine gl_op rfl rfl rfl (op_load hT rfl rfl rfl rfl hc) ?_
  refine gl_callf rfl rfl rfl rfl Tryz.func69 rfl rfl rfl (mParts_calls z _) ?_
  rintro _ _ ⟨rfl, n75, rfl⟩
  refine ⟨_, rfl, ?_⟩
  have hS := hS.dr n75
  refine Zp rfl (Zp rfl (Zp rfl (Zp rfl (Zp rfl (gl_nil (hK12 _ _ (gc_region (Zf 13 Tryz.underlying81 rfl el79 (Zb 2 hS rfl (Zp rfl (Zp rfl (gl_op rfl rfl rfl (op_buildG rfl plan136 rfl rfl) ?_))))))))))))
  refine gl_litS hT hS el136 rfl rfl rfl rfl rfl rfl rfl (by decide) fun g83 w83 hS => ?_
  refine gl_append 6 hT hS el136 (hS.rd (i := 7) rfl) rfl rfl rfl rfl rfl rfl rfl rfl rfl (by simp only; omega) (by simp only; omega) fun A84 c84 w84 hS => ?_
  refine Zf 13 Tryz.underlying81 rfl el79 (gl_store 2 hS el79.cellsOf.1 el79.cellsOf.2 rfl rfl rfl rfl rfl rfl rfl rfl fun w_52 hS => ?_)
  refine gl_nil (hK11 _ _ (gc_region (Zp rfl (Zi rfl (by omega) ?_))))
  refine Zp rfl (gl_nil ?_)
  intro a' ha
  refine ⟨i + 1, A84, c84, ha.sub ⟨rfl, rfl, rfl, rfl, trivial⟩, by omega, by omega, ?_⟩
  rw [htake, flat_snoc]
  exact hS.erase 7
 simp only [NN, reduceCtorEq] at c66
 refine gc_exit ?_
 refine hK7 _ _ (gc_seq fun K13 hK13 => gc_region (Zg 2 Tryz.underlying81 el81 hS rfl (gl_storeM 1 hS el81 rfl rfl rfl rfl rfl rfl rfl rfl rfl fun w_54 hS => ?_)))
 refine gl_nil (hK13 _ _ (gc_ret (gk_res1 rfl (⟨_, rfl, run_loadVarB 1 Tryz.underlying81 rfl el81 hS rfl rfl rfl⟩) ?_)))
 have hie : i = lzb.length := by omega
 subst hie
 rw [List.take_length] at hS
 have hS : St w.heap.size w _ [.blk g1 48 (lyC L), .blk g2 81 (rlC (wth L (AW, lw.length, cW) (AB, lb.length, cB) (AZ, lz.length, cZ) (A', lzb.length, c'))), .blk g3 81 (rlC (wth L (AW, lw.length, cW) (AB, lb.length, cB) (AZ, lz.length, cZ) (A', lzb.length, c'))), .row AW cW 77 1 lw.length (lw.map uV), .row AB cB 77 1 lb.length (lb.map uV), .row AZ cZ 136 2 lz.length ((lz).map pC).flatten, .row A' c' 136 2 lzb.length ((lzb).map pC).flatten] := hS
 exact ⟨wth L (AW, lw.length, cW) (AB, lb.length, cB) (AZ, lz.length, cZ) (A', lzb.length, c'), _, rfl, rfl, hS.keepAll, ⟨wth_ok D.okL _ _ _ _, hS.rowRd (i := 3) rfl (keep_mem (.tail _ (.tail _ (.tail _ (.head _))))), rfl, hS.rowRd (i := 4) rfl (keep_mem (.tail _ (.tail _ (.tail _ (.tail _ (.head _)))))), rfl,
  ⟨hS.rowRd (i := 5) rfl (keep_mem (.tail _ (.tail _ (.tail _ (.tail _ (.tail _ (.head _))))))), fun _ => rfl⟩, rfl, ⟨hS.rowRd (i := 6) rfl (keep_mem (.tail _ (.tail _ (.tail _ (.tail _ (.tail _ (.tail _ (.head _)))))))), fun _ => rfl⟩, rfl⟩⟩
end Go.Proofs.YtnomlloaahoceaaGreatDoor
