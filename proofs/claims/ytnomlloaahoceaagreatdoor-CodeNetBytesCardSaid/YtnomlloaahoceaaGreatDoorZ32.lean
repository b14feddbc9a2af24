/- Contracts of functions that CodeNetBytes reaches, and words to say them. No condition. -/
import Derived.Test.YtnomlloaahoceaaGreatDoorZ31
import Derived.Test.YtnomlloaahoceaaGreatDoorZ03
/- Contracts: a network as bits, all of it. No condition. -/
namespace Go.Proofs.YtnomlloaahoceaaGreatDoor
open Go.RowKit
set_option linter.unusedVariables false
set_option linter.unusedSimpArgs false
theorem St.keepFrontE {B : Nat} {w0 w : World} {L1 L2 L : List It} (h : St B w0 w (L1 ++ (L2 ++ L))) : ∃ wk, wk = w ∧ St B w0 w (L1 ++ (.keep (fun b => ∃ it ∈ L2, it.fp b) wk :: L)) := ⟨w, rfl, h.keepFront⟩
theorem wts_le {x : Lx} (h : wtsV x ≤ 65536) : x.lz.length ≤ 65536 ∧ x.lzb.length ≤ 65536 := by unfold wtsV at h; omega
set_option maxHeartbeats 4000000 in
set_option maxRecDepth 100000 in
theorem ofNet_calls (AL AN : Option Addr) (cL cN : Nat) (Ls : List Ly) (q : Nx) (w : World) {ok : Nat → Prop} (D : NtM w ok AL AN Ls q) :
 Calls Tryz.prog 11 ⟨[.agg ⟨ntC q.s (AL, Ls.length, cL) (AN, q.ns.length, cN)⟩]⟩ w fun e w' => ∃ (AL' AN' : Option Addr) (cL' cN' : Nat) (Ls' : List Ly) (K : Nat → Prop), e = .returned (.agg ⟨ntC q.s (AL', Ls'.length, cL') (AN', q.ns.length, cN')⟩) ∧ St w.heap.size w w' [.keep K w'] ∧ NtU w' K AL' AN' Ls' q := by
 have hlx : Ls.length = q.xs.length := D.ly.1
 have hx64 := D.nL
 have hn256 := D.nN
 refine gc_enter (N := 33) Tryz.func11 rfl rfl rfl [(0, _)] rfl ?_
 have hS := St.start w
 refine gc_seq fun K1 hK1 => gc_region (gl_box hS rfl rfl rfl rfl rfl fun g1 w1 hS => ?_)
 refine gl_alloc el37 hS rfl rfl rfl rfl fun g2 w2 hS => ?_
 refine gl_nil (hK1 _ _ (gc_seq fun K2 hK2 => gc_region (Zf 0 Tryz.underlying31 rfl el27 (Zg 0 Tryz.underlying27 el27 hS rfl (gl_op rfl rfl rfl (op_buildG rfl plan37 rfl rfl) ?_)))))
 refine gl_alloc el37 hS rfl rfl rfl rfl fun g3 w3 hS => ?_
 refine gl_storeM 2 hS el37 rfl rfl rfl rfl rfl rfl rfl rfl rfl fun w_71 hS => ?_
 refine gl_nil (hK2 _ _ (gc_seq fun K3 hK3 => gc_seq fun K4 hK4 => gc_region (Zp rfl (gl_nil (hK4 _ _ (gc_block ?_))))))
 have hS : St w.heap.size w _ [.blk g1 31 (ntC q.s (AL, Ls.length, cL) (AN, q.ns.length, cN)), .blk g2 37 zN, .blk g3 37 (ntC q.s (nilS) (nilS)), .row none 0 81 14 0 [], .keep _ _] := (hS.nil 81 14).keep0
 refine gc_loop (fun kk a' w' => ∃ (i : Nat) (A' : Option Addr) (c' : Nat) (Ls' : List Ly) (K : Nat → Prop) (wk : World), Fr 33 a' [(1, .pointer (some ⟨g1, 0, none⟩)), (2, .pointer (some ⟨g2, 0, none⟩)), (3, .pointer (some ⟨g3, 0, none⟩)), (4, .int .i64 (i : Nat))] ∧ i ≤ Ls.length ∧ kk = Ls.length + 1 - i ∧ Ls'.length = i ∧ Lsu wk K Ls' (q.xs.take i) ∧ St w.heap.size w w' [.blk g1 31 (ntC q.s (AL, Ls.length, cL) (AN, q.ns.length, cN)), .blk g2 37 zN, .blk g3 37 (ntC q.s (A', Ls'.length, c') (nilS)), .row A' c' 81 14 Ls'.length (Ls'.map rlC).flatten, .keep K wk]) (Ls.length + 1) ?_ ?_ ?_
 ·intro a' ha; exact ⟨0, none, 0, [], _, _, ha.sub ⟨rfl, rfl, rfl, rfl, trivial⟩, by omega, by omega, rfl, ⟨rfl, fun i L x h => by simp at h⟩, hS⟩
 ·rintro a' w' ⟨i, _, _, _, _, _, _, h1, h2, _⟩; omega
 clear hS
 rintro kk a' w1 ⟨i, A', c', Ls', K, wk, hF, hi, hk, hl', hP, hS⟩
 refine gc_of hF ?_
 clear hF
 refine gc_seq fun K5 hK5 => gc_seq fun K6 hK6 => gc_region (Zp rfl (Zf 3 Tryz.underlying31 rfl el28 (Zb 0 hS rfl (Zp rfl (Zp rfl (gl_nil (hK6 _ _ (gc_cond rfl rfl (fun c12 => ?_) (fun c12 => ?_)))))))))
 ·simp only [NN, reduceCtorEq] at c12
  refine gc_skip (hK5 _ _ (gc_seq fun K7 hK7 => gc_block (gc_anyS ((hS.blank 2).blank 3) (by kernel_rfl) rfl fun nq5 hK => ?_)))
  have hS := hS.dr nq5
  have hil : i < Ls.length := by omega
  obtain ⟨L, hL⟩ : ∃ L, Ls[i]? = some L := ⟨_, List.getElem?_eq_getElem hil⟩
  obtain ⟨x, hx⟩ : ∃ x, q.xs[i]? = some x := ⟨_, List.getElem?_eq_getElem (by omega)⟩
  have hD := D.ly.2 i L x hL hx
  have hw := wts_le (D.wt x (List.mem_of_getElem? hx))
  have htk : q.xs.take (i + 1) = q.xs.take i ++ [x] := by rw [List.take_add_one, hx]; rfl
  obtain ⟨ad, hA, _⟩ := RdS.at D.rL hL
  refine Yf 0 3 Tryz.underlying37 rfl el35 (by kernel_rfl) (fun _ _ _ _ h => h) hK ?_
  refine Yf 2 3 Tryz.underlying31 rfl el28 (by kernel_rfl) (fun _ _ _ _ h => h) hK ?_
  refine Yb 3 0 rfl (by kernel_rfl) (fun _ _ _ _ h => h) hK ?_
  refine Yp 4 rfl (by kernel_rfl) (fun _ _ _ _ h => h) hK ?_
  refine ga_take 5 rfl rfl rfl rfl (by kernel_rfl) (fun _ _ _ _ h => h) hK (fun w1 hS => op_indexAddr hT rfl rfl el48.cellsOf.1 el48.cellsOf.2 rfl rfl (by omega) (by omega) hA) ?_
  refine ga_spell 20 (v := .pointer (some (ad.add (i * 14)))) rfl (by rw [Int.toNat_natCast]) ?_
  refine ga_take 6 rfl rfl rfl rfl (by kernel_rfl) (fun _ _ _ _ h => h) hK (fun w1 hS => op_loadS Tryz.underlying48 rfl el48 rfl rfl ((RdS.old D.rL (by decide) hS).cells hA hL) rfl) ?_
  refine ga_two 1 7 (by kernel_rfl) rfl rfl ?_ ?_
  ·refine Zb 2 hS rfl (gl_nil (ga_next (((hS.blank 2).blank 3).pre 5) fun hK => ?_))
   refine ga_one 7 (by kernel_rfl) rfl ?_
   refine gl_callf rfl rfl rfl rfl Tryz.func37 rfl rfl rfl (ofLayer_calls L x.lw x.lb x.lz x.lzb _ (hD.1.old hS) hw.1 hw.2) ?_
   rintro _ w22 ⟨L', K2, rfl, hb22, h22, hU22⟩
   refine ⟨_, rfl, ?_⟩
   have hS := hS.more h22
   refine gl_nil (ga_next (((hS.blank 2).blank 3).pre 5) fun hK => ?_)
   refine ga_one 8 (by kernel_rfl) rfl ?_
   refine gl_litS hT hS el81 rfl rfl rfl rfl rfl rfl rfl (by decide) fun g23 w23 hS => ?_
   refine gl_nil (ga_next (((hS.blank 2).blank 3).pre 5) fun hK => ?_)
   refine ga_one 9 (by kernel_rfl) rfl ?_
   refine gl_append 3 hT hS el81 (hS.rd (i := 6) rfl) rfl rfl rfl rfl rfl rfl rfl rfl rfl (by simp only; omega) (by simp only; omega) fun A24 c24 w24 hS => ?_
   refine gl_nil (ga_next (((hS.blank 2).blank 3).pre 5) fun hK => ?_)
   refine Yf 10 3 Tryz.underlying37 rfl el35 (by kernel_rfl) (fun _ _ _ _ h => h) hK ?_
   refine ga_one 11 (by kernel_rfl) rfl ?_
   refine gl_store 2 hS el35.cellsOf.1 el35.cellsOf.2 rfl rfl rfl rfl rfl rfl rfl rfl fun w_73 hS => ?_
   refine gl_nil (ga_next (((hS.blank 2).blank 3).pre 5) fun hK => ?_)
   refine ga_done (by kernel_rfl) ?_
   refine hK7 _ _ (gc_region (Zp rfl (Zi rfl (by omega) ?_)))
   refine Zp rfl (gl_nil ?_)
   intro a' ha
   have hS : St w.heap.size w _ ([_, _, _, _] ++ ([_, _, _] ++ [])) := hS
   obtain ⟨wk9, hwk9, hS9⟩ := St.keepFrontE hS
   subst hwk9
   refine ⟨i + 1, A24, c24, Ls' ++ [L'], (fun b => ∃ it ∈ ([.keep K wk, .keep K2 w22, .row (some ⟨g23, 0, none⟩) 1 81 14 1 (rlC L')] : List It), it.fp b), wk9, ha.sub ⟨rfl, rfl, rfl, rfl, trivial⟩, by omega, by omega, by rw [List.length_append, hl']; rfl, ?_, ?_⟩
   rotate_left 1
   ·rw [List.length_append, flat_snoc]
    exact hS9
   rw [htk]
   exact (hP.lift fun h => (hS.keepRd (i := 4) rfl h).weaken (keep_mem (x := .keep K wk) (.head _))).snoc (hU22.lift fun h => (hS.keepRd (i := 5) rfl h).weaken (keep_mem (x := .keep K2 w22) (.tail _ (.head _)))) (hb22.trans hD.2)
  refine gl_callf rfl rfl rfl rfl Tryz.func37 rfl rfl rfl (ofLayer_calls L x.lw x.lb x.lz x.lzb _ (hD.1.old hS) hw.1 hw.2) ?_
  rintro _ w22 ⟨L', K2, rfl, hb22, h22, hU22⟩
  refine ⟨_, rfl, ?_⟩
  have hS := hS.more h22
  refine gl_nil (ga_next (((hS.blank 2).blank 3).pre 5) fun hK => ?_)
  refine ga_two 1 8 (by kernel_rfl) rfl rfl ?_ ?_
  ·refine Zb 2 hS rfl (gl_nil (ga_next (((hS.blank 2).blank 3).pre 5) fun hK => ?_))
   refine ga_one 8 (by kernel_rfl) rfl ?_
   refine gl_litS hT hS el81 rfl rfl rfl rfl rfl rfl rfl (by decide) fun g23 w23 hS => ?_
   refine gl_nil (ga_next (((hS.blank 2).blank 3).pre 5) fun hK => ?_)
   refine ga_one 9 (by kernel_rfl) rfl ?_
   refine gl_append 3 hT hS el81 (hS.rd (i := 6) rfl) rfl rfl rfl rfl rfl rfl rfl rfl rfl (by simp only; omega) (by simp only; omega) fun A24 c24 w24 hS => ?_
   refine gl_nil (ga_next (((hS.blank 2).blank 3).pre 5) fun hK => ?_)
   refine Yf 10 3 Tryz.underlying37 rfl el35 (by kernel_rfl) (fun _ _ _ _ h => h) hK ?_
   refine ga_one 11 (by kernel_rfl) rfl ?_
   refine gl_store 2 hS el35.cellsOf.1 el35.cellsOf.2 rfl rfl rfl rfl rfl rfl rfl rfl fun w_73 hS => ?_
   refine gl_nil (ga_next (((hS.blank 2).blank 3).pre 5) fun hK => ?_)
   refine ga_done (by kernel_rfl) ?_
   refine hK7 _ _ (gc_region (Zp rfl (Zi rfl (by omega) ?_)))
   refine Zp rfl (gl_nil ?_)
   intro a' ha
   have hS : St w.heap.size w _ ([_, _, _, _] ++ ([_, _, _] ++ [])) := hS
   obtain ⟨wk9, hwk9, hS9⟩ := St.keepFrontE hS
   subst hwk9
   refine ⟨i + 1, A24, c24, Ls' ++ [L'], (fun b => ∃ it ∈ ([.keep K wk, .keep K2 w22, .row (some ⟨g23, 0, none⟩) 1 81 14 1 (rlC L')] : List It), it.fp b), wk9, ha.sub ⟨rfl, rfl, rfl, rfl, trivial⟩, by omega, by omega, by rw [List.length_append, hl']; rfl, ?_, ?_⟩
   rotate_left 1
   ·rw [List.length_append, flat_snoc]
    exact hS9
   rw [htk]
   exact (hP.lift fun h => (hS.keepRd (i := 4) rfl h).weaken (keep_mem (x := .keep K wk) (.head _))).snoc (hU22.lift fun h => (hS.keepRd (i := 5) rfl h).weaken (keep_mem (x := .keep K2 w22) (.tail _ (.head _)))) (hb22.trans hD.2)
  refine gl_litS hT hS el81 rfl rfl rfl rfl rfl rfl rfl (by decide) fun g23 w23 hS => ?_
  refine gl_nil (ga_next (((hS.blank 2).blank 3).pre 5) fun hK => ?_)
  refine ga_one 1 (by kernel_rfl) rfl ?_
  refine Zb 2 hS rfl (gl_nil (ga_next (((hS.blank 2).blank 3).pre 5) fun hK => ?_))
  refine ga_one 9 (by kernel_rfl) rfl ?_
  refine gl_append 3 hT hS el81 (hS.rd (i := 6) rfl) rfl rfl rfl rfl rfl rfl rfl rfl rfl (by simp only; omega) (by simp only; omega) fun A24 c24 w24 hS => ?_
  refine gl_nil (ga_next (((hS.blank 2).blank 3).pre 5) fun hK => ?_)
  refine Yf 10 3 Tryz.underlying37 rfl el35 (by kernel_rfl) (fun _ _ _ _ h => h) hK ?_
  refine ga_one 11 (by kernel_rfl) rfl ?_
  refine gl_store 2 hS el35.cellsOf.1 el35.cellsOf.2 rfl rfl rfl rfl rfl rfl rfl rfl fun w_73 hS => ?_
  refine gl_nil (ga_next (((hS.blank 2).blank 3).pre 5) fun hK => ?_)
  refine ga_done (by kernel_rfl) ?_
  refine hK7 _ _ (gc_region (Zp rfl (Zi rfl (by omega) ?_)))
  refine Zp rfl (gl_nil ?_)
  intro a' ha
  have hS : St w.heap.size w _ ([_, _, _, _] ++ ([_, _, _] ++ [])) := hS
  obtain ⟨wk9, hwk9, hS9⟩ := St.keepFrontE hS
  subst hwk9
  refine ⟨i + 1, A24, c24, Ls' ++ [L'], (fun b => ∃ it ∈ ([.keep K wk, .keep K2 w22, .row (some ⟨g23, 0, none⟩) 1 81 14 1 (rlC L')] : List It), it.fp b), wk9, ha.sub ⟨rfl, rfl, rfl, rfl, trivial⟩, by omega, by omega, by rw [List.length_append, hl']; rfl, ?_, ?_⟩
  rotate_left 1
  ·rw [List.length_append, flat_snoc]
   exact hS9
  rw [htk]
  exact (hP.lift fun h => (hS.keepRd (i := 4) rfl h).weaken (keep_mem (x := .keep K wk) (.head _))).snoc (hU22.lift fun h => (hS.keepRd (i := 5) rfl h).weaken (keep_mem (x := .keep K2 w22) (.tail _ (.head _)))) (hb22.trans hD.2)
 simp only [NN, reduceCtorEq] at c12
 refine gc_exit ?_
 refine hK3 _ _ (gc_seq fun K8 hK8 => gc_region (Zf 4 Tryz.underlying37 rfl el29 (Zb 2 hS rfl (Zf 4 Tryz.underlying31 rfl el29 (Zb 0 hS rfl (gl_append0 hT hS el9 (Rd.old D.rN (by decide) hS) (allOne_map (fun _ => rfl) _) rfl rfl rfl rfl rfl rfl rfl (by omega) (by omega) fun A30 c30 w30 hS => ?_))))))
 refine Zf 4 Tryz.underlying37 rfl el29 (gl_store 2 hS el29.cellsOf.1 el29.cellsOf.2 rfl rfl rfl rfl rfl rfl rfl rfl fun w_75 hS => ?_)
 refine gl_nil (hK8 _ _ (gc_seq fun K9 hK9 => gc_region (Zg 2 Tryz.underlying37 el37 hS rfl (gl_storeM 1 hS el37 rfl rfl rfl rfl rfl rfl rfl rfl rfl fun w_76 hS => ?_))))
 refine gl_nil (hK9 _ _ (gc_ret ?_))
 simp only [XR]
 refine gk_res1 rfl (⟨_, rfl, run_loadVarB 1 Tryz.underlying37 rfl el37 hS rfl rfl rfl⟩) ?_
 have hie : i = Ls.length := by omega
 subst hie
 rw [hlx, List.take_length] at hP
 have hS : St w.heap.size w _ [.blk g1 31 (ntC q.s (AL, Ls.length, cL) (AN, q.ns.length, cN)), .blk g2 37 (ntC q.s (A', Ls'.length, c') (A30, q.ns.length, c30)), .blk g3 37 (ntC q.s (A', Ls'.length, c') (A30, q.ns.length, c30)), .row A' c' 81 14 Ls'.length (Ls'.map rlC).flatten, .keep K wk, .row A30 c30 9 1 q.ns.length (q.ns.map tV)] := hS
 exact ⟨A', A30, c', c30, Ls', _, rfl, hS.keepAll, ⟨⟨hS.rowRd (i := 3) rfl (keep_mem (.tail _ (.tail _ (.tail _ (.head _))))), fun _ => rfl⟩, hP.lift fun h => (hS.keepRd (i := 4) rfl h).weaken (keep_mem (x := .keep K wk) (.tail _ (.tail _ (.tail _ (.tail _ (.head _)))))), hS.rowRd (i := 5) rfl (keep_mem (.tail _ (.tail _ (.tail _ (.tail _ (.tail _ (.head _)))))))⟩⟩
end Go.Proofs.YtnomlloaahoceaaGreatDoor
