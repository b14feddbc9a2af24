/- Contracts: a question laid with marks, its bits, what stands; ModelProps. No condition. -/
import Derived.Test.YtkfhablonnjgeaaDoorPr3
import Derived.Test.YtkfhablonnjgeaaDoorTo6
namespace Go.Proofs.YtkfhablonnjgeaaDoor
open Go.RowKit
set_option linter.unusedVariables false
set_option linter.unusedSimpArgs false
@[reducible] def cutP (p : Px) : Px := ⟨p.C.take 300, cutL p.G, p.T, cutL p.M, p.K, p.D, p.S⟩
/-- A question laid with marks, as it lies in memory. -/
structure PrL (w : World) (ok : Nat → Prop) (C G M : Sv) (SG SM : List Sv) (mg mm : Sv) (p : Px) : Prop where
  rC : Rd w ok C.1 (p.C.length + 9) 1 (laidC p.C)
  nC : C.2.1 = p.C.length
  cC : p.C.length + 9 ≤ C.2.2
  rG : LdM w ok G.1 G.2.2 SG p.G mg
  nG : G.2.1 = p.G.length
  rM : LdM w ok M.1 M.2.2 SM p.M mm
  nM : M.2.1 = p.M.length
theorem PrL.keep {w w0 : World} {B : Nat} {L : List It} (hS : St B w0 w L) {i : Nat} {ok : Nat → Prop} {wk : World} (hi : L[i]? = some (.keep ok wk)) {C G M : Sv} {SG SM : List Sv} {mg mm : Sv} {p : Px} (h : PrL wk ok C G M SG SM mg mm p) : PrL w ok C G M SG SM mg mm p :=
  ⟨hS.keepRd hi h.rC, h.nC, h.cC, LdM.keep hS hi h.rG, h.nG, LdM.keep hS hi h.rM, h.nM⟩
theorem PrU.keep {w w0 : World} {B : Nat} {L : List It} (hS : St B w0 w L) {i : Nat} {ok : Nat → Prop} {wk : World} (hi : L[i]? = some (.keep ok wk)) {C G M : Sv} {SG SM : List Sv} {p : Px} (h : PrU wk ok C G M SG SM p) : PrU w ok C G M SG SM p :=
  ⟨hS.keepRd hi h.rC, h.nC, h.lC, h.fC, LsU.keep hS hi h.rG, h.nG, h.lG, LsU.keep hS hi h.rM, h.nM, h.lM, h.iT, h.iK, h.iD, h.iS⟩
theorem PrM.old {w w' : World} {ok : Nat → Prop} {C G M : Sv} {SG SM : List Sv} {p : Px} {L0 : List It} (h : PrM w ok C G M SG SM p) (hS : St w.heap.size w w' L0) : PrM w' ok C G M SG SM p :=
  ⟨h.rC.old hS, h.nC, h.lC, h.fC, h.rG.old hS, h.nG, h.lG, h.rM.old hS, h.nM, h.lM, h.iT, h.iK, h.iD, h.iS⟩
theorem PrU.old {w w' : World} {ok : Nat → Prop} {C G M : Sv} {SG SM : List Sv} {p : Px} {L0 : List It} (h : PrU w ok C G M SG SM p) (hS : St w.heap.size w w' L0) : PrU w' ok C G M SG SM p :=
  ⟨h.rC.old hS, h.nC, h.lC, h.fC, h.rG.old hS, h.nG, h.lG, h.rM.old hS, h.nM, h.lM, h.iT, h.iK, h.iD, h.iS⟩
theorem LdM.old {w w' : World} {ok : Nat → Prop} {A : Option Addr} {c : Nat} {S : List Sv} {ls : List (List Nat)} {mk : Sv} {L0 : List It} (h : LdM w ok A c S ls mk) (hS : St w.heap.size w w' L0) : LdM w' ok A c S ls mk :=
  ⟨h.rS.old (by decide) hS, h.cp, h.len, fun j x l h1 h2 => ⟨(h.rd j x l h1 h2).1.old (by decide) hS, (h.rd j x l h1 h2).2⟩, h.rm.old (by decide) hS, h.nm⟩
/-- Numbers of at most so many, each one's bits. -/
structure Px.small (p : Px) : Prop where
  C : p.C.length ≤ 1048576
  fC : ∀ u ∈ p.C, u < 18446744073709551616
  G : p.G.length ≤ 1048576
  fG : ∀ l ∈ p.G, l.length ≤ 1048576 ∧ ∀ u ∈ l, u < 18446744073709551616
  M : p.M.length ≤ 1048576
  fM : ∀ l ∈ p.M, l.length ≤ 1048576 ∧ ∀ u ∈ l, u < 18446744073709551616
  iT : i64 p.T
  iK : i64 p.K
  iD : i64 p.D
  iS : i64 p.S
theorem PrL.prM {w : World} {ok : Nat → Prop} {C G M : Sv} {SG SM : List Sv} {mg mm : Sv} {p : Px} (h : PrL w ok C G M SG SM mg mm p) (hp : p.small) : PrM w ok C G M SG SM p :=
  ⟨rdE_of (h.rC.pre (cs := p.C.map fV) (m := p.C.length) (by rw [List.length_map]) (by omega)) rfl, h.nC, by have := hp.C; omega, hp.fC, h.rG.lsM hp.fG, h.nG, by have := hp.G; omega, h.rM.lsM hp.fM, h.nM, by have := hp.M; omega, hp.iT, hp.iK, hp.iD, hp.iS⟩
theorem cutP_small {p : Px} (fC : ∀ u ∈ p.C, u < 18446744073709551616) (fG : ∀ l ∈ p.G, ∀ u ∈ l, u < 18446744073709551616) (fM : ∀ l ∈ p.M, ∀ u ∈ l, u < 18446744073709551616) (iT : i64 p.T) (iK : i64 p.K) (iD : i64 p.D) (iS : i64 p.S) : (cutP p).small := by
  have hc : ∀ (ls : List (List Nat)), (∀ l ∈ ls, ∀ u ∈ l, u < 18446744073709551616) → (cutL ls).length ≤ 1048576 ∧ ∀ l ∈ cutL ls, l.length ≤ 1048576 ∧ ∀ u ∈ l, u < 18446744073709551616 := by
    intro ls h
    refine ⟨by unfold cutL; rw [List.length_map, List.length_take]; omega, fun l hl => ?_⟩
    obtain ⟨m, hm, rfl⟩ := List.mem_map.1 hl
    exact ⟨by rw [List.length_take]; omega, fun u hu => h m (List.mem_of_mem_take hm) u (List.mem_of_mem_take hu)⟩
  exact ⟨by show (p.C.take 300).length ≤ _; rw [List.length_take]; omega, fun u hu => fC u (List.mem_of_mem_take hu), (hc _ fG).1, (hc _ fG).2, (hc _ fM).1, (hc _ fM).2, iT, iK, iD, iS⟩
theorem prop6_calls (C G M : Sv) (SG SM : List Sv) (p : Px) (w : World) {ok : Nat → Prop} (D : PrM w ok C G M SG SM p) (hC : p.C.length ≤ C.2.2) (hG : ∀ x ∈ SG, x.2.1 ≤ x.2.2) (hM : ∀ x ∈ SM, x.2.1 ≤ x.2.2) :
    Calls Tryd.prog 9 ⟨[.agg ⟨propC C G M p⟩]⟩ w fun e w' => ∃ C' G' M' SG' SM' mg mm K, e = .returned (.agg ⟨propC C' G' M' (cutP p)⟩) ∧ St w.heap.size w w' [.keep K w'] ∧ PrL w' K C' G' M' SG' SM' mg mm (cutP p) := by
  obtain ⟨C1, C2, C3⟩ := C
  obtain ⟨G1, G2, G3⟩ := G
  obtain ⟨M1, M2, M3⟩ := M
  refine gc_enter (N := 16) Tryd.func9 rfl rfl rfl [(0, _)] rfl ?_
  have hS := St.start w
  refine gc_seq fun K1 hK1 => ?_
  refine gc_region ?_
  refine gl_box hS rfl rfl rfl rfl rfl fun g1 w1 hS => ?_
  refine gl_alloc el27 hS rfl rfl rfl rfl fun g2 w2 hS => ?_
  refine gl_nil ?_
  refine hK1 _ _ ?_
  clear hK1; try clear K1
  refine gc_seq fun K2 hK2 => ?_
  refine gc_region ?_
  refine gl_op rfl rfl rfl (op_fieldB 0 rfl Tryd.underlying27 rfl el24 rfl rfl) ?_
  refine gl_op rfl rfl rfl (op_loadB 0 hT hS rfl rfl rfl rfl rfl rfl) ?_
  refine gl_callf rfl rfl rfl rfl Tryd.func21 rfl rfl rfl (laid_calls _ _ _ p.C _ (D.rC.old hS) D.nC hC) ?_
  rintro _ w5 ⟨A5, c5, rfl, h5⟩
  refine ⟨_, rfl, ?_⟩
  have hS := hS.more h5
  refine gl_op rfl rfl rfl (op_fieldB 0 rfl Tryd.underlying27 rfl el24 rfl rfl) ?_
  refine gl_store 0 hS el24.cellsOf.1 el24.cellsOf.2 rfl rfl rfl rfl rfl rfl rfl rfl fun wlaw_go_124 hS => ?_
  refine gl_nil ?_
  refine hK2 _ _ ?_
  clear hK2; try clear K2
  refine gc_seq fun K3 hK3 => ?_
  refine gc_region ?_
  refine gl_op rfl rfl rfl (op_fieldB 1 rfl Tryd.underlying27 rfl el25 rfl rfl) ?_
  refine gl_op rfl rfl rfl (op_loadB 0 hT hS rfl rfl rfl rfl rfl rfl) ?_
  refine gl_callf rfl rfl rfl rfl Tryd.func22 rfl rfl rfl (lists6_calls _ _ _ SG p.G _ (D.rG.old hS) hG D.nG D.lG) ?_
  rintro _ w9 ⟨A9, c9, S9, k9, K9, rfl, h9, hL9⟩
  refine ⟨_, rfl, ?_⟩
  have hS := hS.more h9
  refine gl_op rfl rfl rfl (op_fieldB 1 rfl Tryd.underlying27 rfl el25 rfl rfl) ?_
  refine gl_store 0 hS el25.cellsOf.1 el25.cellsOf.2 rfl rfl rfl rfl rfl rfl rfl rfl fun wlaw_go_125 hS => ?_
  refine gl_nil ?_
  refine hK3 _ _ ?_
  clear hK3; try clear K3
  refine gc_seq fun K4 hK4 => ?_
  refine gc_region ?_
  refine gl_op rfl rfl rfl (op_fieldB 3 rfl Tryd.underlying27 rfl el25 rfl rfl) ?_
  refine gl_op rfl rfl rfl (op_loadB 0 hT hS rfl rfl rfl rfl rfl rfl) ?_
  refine gl_callf rfl rfl rfl rfl Tryd.func22 rfl rfl rfl (lists6_calls _ _ _ SM p.M _ (D.rM.old hS) hM D.nM D.lM) ?_
  rintro _ w13 ⟨A13, c13, S13, k13, K13, rfl, h13, hL13⟩
  refine ⟨_, rfl, ?_⟩
  have hS := hS.more h13
  refine gl_op rfl rfl rfl (op_fieldB 3 rfl Tryd.underlying27 rfl el25 rfl rfl) ?_
  refine gl_store 0 hS el25.cellsOf.1 el25.cellsOf.2 rfl rfl rfl rfl rfl rfl rfl rfl fun wlaw_go_126 hS => ?_
  refine gl_nil ?_
  refine hK4 _ _ ?_
  clear hK4; try clear K4
  refine gc_seq fun K5 hK5 => ?_
  refine gc_region ?_
  refine gl_op rfl rfl rfl (op_loadG 0 Tryd.underlying27 rfl el27 hS rfl rfl rfl rfl rfl) ?_
  refine gl_storeM 1 hS el27 rfl rfl rfl rfl rfl rfl rfl rfl rfl fun wlaw_go_127 hS => ?_
  refine gl_nil ?_
  refine hK5 _ _ ?_
  clear hK5; try clear K5
  refine gc_ret ?_
  try simp only [x_then_ret, x_block_ret]
  refine gk_res1 rfl (⟨_, rfl, run_loadVarB 1 Tryd.underlying27 rfl el27 hS rfl rfl rfl⟩) ?_
  have hS : St w.heap.size w _ ([] ++ [_, _, It.row A5 c5 46 1 ((p.C.take 300).length + 9) (laidC (p.C.take 300)), .keep K9 w9, .keep K13 w13]) := hS
  have hcap := (hS.cap (i := 2) rfl).1
  refine ⟨(A5, (p.C.take 300).length, c5), (A9, (cutL p.G).length, c9), (A13, (cutL p.M).length, c13), S9, S13, k9, k13, _, rfl, hS.keepRest, ?_⟩
  exact ⟨hS.rowRd (i := 2) rfl (keep_mem (.tail _ (.tail _ (.head _)))), rfl, hcap, (LdM.keep hS (i := 3) rfl hL9).weaken (keep_mem (x := .keep K9 w9) (.tail _ (.tail _ (.tail _ (.head _))))), rfl, (LdM.keep hS (i := 4) rfl hL13).weaken (keep_mem (x := .keep K13 w13) (.tail _ (.tail _ (.tail _ (.tail _ (.head _)))))), rfl⟩
theorem ofProp_calls (C G M : Sv) (SG SM : List Sv) (p : Px) (w : World) {ok : Nat → Prop} (D : PrM w ok C G M SG SM p) (hp : p.small) :
    Calls Tryd.prog 10 ⟨[.agg ⟨propC C G M p⟩]⟩ w fun e w' => ∃ C' G' M' SG' SM' K, e = .returned (.agg ⟨propC C' G' M' p⟩) ∧ St w.heap.size w w' [.keep K w'] ∧ PrU w' K C' G' M' SG' SM' p := by
  obtain ⟨C1, C2, C3⟩ := C
  obtain ⟨G1, G2, G3⟩ := G
  obtain ⟨M1, M2, M3⟩ := M
  refine gc_enter (N := 21) Tryd.func10 rfl rfl rfl [(0, _)] rfl ?_
  have hS := St.start w
  refine gc_seq fun K1 hK1 => ?_
  refine gc_region ?_
  refine gl_box hS rfl rfl rfl rfl rfl fun g1 w1 hS => ?_
  refine gl_alloc el32 hS rfl rfl rfl rfl fun g2 w2 hS => ?_
  refine gl_nil ?_
  refine hK1 _ _ ?_
  clear hK1; try clear K1
  refine gc_seq fun K2 hK2 => ?_
  refine gc_anyS (hS.blank 1) (by kernel_rfl) rfl fun nq1 hK => ?_
  have hS := hS.dr nq1
  refine ga_take 0 rfl rfl rfl rfl (by kernel_rfl) (fun _ _ _ _ _ h => h) hK (fun w1 hS => op_fieldB 0 rfl Tryd.underlying27 rfl el24 rfl rfl) ?_
  refine ga_take 1 rfl rfl rfl rfl (by kernel_rfl) (fun _ _ _ _ _ h => h) hK (fun w1 hS => op_loadB 0 hT hS rfl rfl rfl rfl rfl rfl) ?_
  refine ga_take 3 rfl rfl rfl rfl (by kernel_rfl) (fun _ _ _ _ _ h => h) hK (fun w1 hS => op_fieldB 1 rfl Tryd.underlying27 rfl el25 rfl rfl) ?_
  refine ga_take 4 rfl rfl rfl rfl (by kernel_rfl) (fun _ _ _ _ _ h => h) hK (fun w1 hS => op_loadB 0 hT hS rfl rfl rfl rfl rfl rfl) ?_
  refine ga_take 6 rfl rfl rfl rfl (by kernel_rfl) (fun _ _ _ _ _ h => h) hK (fun w1 hS => op_fieldB 2 rfl Tryd.underlying27 rfl el3 rfl rfl) ?_
  refine ga_take 7 rfl rfl rfl rfl (by kernel_rfl) (fun _ _ _ _ _ h => h) hK (fun w1 hS => op_loadB 0 hT hS rfl rfl rfl rfl rfl rfl) ?_
  refine ga_take 8 rfl rfl rfl rfl (by kernel_rfl) (fun _ _ _ _ _ h => h) hK (fun w1 hS => op_fieldB 3 rfl Tryd.underlying27 rfl el25 rfl rfl) ?_
  refine ga_take 9 rfl rfl rfl rfl (by kernel_rfl) (fun _ _ _ _ _ h => h) hK (fun w1 hS => op_loadB 0 hT hS rfl rfl rfl rfl rfl rfl) ?_
  refine ga_take 11 rfl rfl rfl rfl (by kernel_rfl) (fun _ _ _ _ _ h => h) hK (fun w1 hS => op_fieldB 4 rfl Tryd.underlying27 rfl el3 rfl rfl) ?_
  refine ga_take 12 rfl rfl rfl rfl (by kernel_rfl) (fun _ _ _ _ _ h => h) hK (fun w1 hS => op_loadB 0 hT hS rfl rfl rfl rfl rfl rfl) ?_
  refine ga_take 13 rfl rfl rfl rfl (by kernel_rfl) (fun _ _ _ _ _ h => h) hK (fun w1 hS => op_fieldB 5 rfl Tryd.underlying27 rfl el3 rfl rfl) ?_
  refine ga_take 14 rfl rfl rfl rfl (by kernel_rfl) (fun _ _ _ _ _ h => h) hK (fun w1 hS => op_loadB 0 hT hS rfl rfl rfl rfl rfl rfl) ?_
  refine ga_take 15 rfl rfl rfl rfl (by kernel_rfl) (fun _ _ _ _ _ h => h) hK (fun w1 hS => op_fieldB 6 rfl Tryd.underlying27 rfl el3 rfl rfl) ?_
  refine ga_take 16 rfl rfl rfl rfl (by kernel_rfl) (fun _ _ _ _ _ h => h) hK (fun w1 hS => op_loadB 0 hT hS rfl rfl rfl rfl rfl rfl) ?_
  refine ga_one 2 (by kernel_rfl) rfl ?_
  refine gl_callf rfl rfl rfl rfl Tryd.func23 rfl rfl rfl (bits_calls _ _ _ p.C _ (D.rC.old hS) D.nC hp.C) ?_
  rintro _ w5 ⟨A5, c5, rfl, h5⟩
  refine ⟨_, rfl, ?_⟩
  have hS := hS.more h5
  refine gl_nil ?_
  refine ga_next ((hS.blank 1).pre 2) fun hK => ?_
  refine ga_one 5 (by kernel_rfl) rfl ?_
  refine gl_callf rfl rfl rfl rfl Tryd.func24 rfl rfl rfl (bitsOf_calls _ _ _ SG p.G _ (D.rG.old hS) D.nG hp.G (fun l h => (hp.fG l h).1)) ?_
  rintro _ w8 ⟨A8, c8, S8, K8, rfl, h8, hU8⟩
  refine ⟨_, rfl, ?_⟩
  have hS := hS.more h8
  refine gl_nil ?_
  refine ga_next ((hS.blank 1).pre 2) fun hK => ?_
  refine ga_one 10 (by kernel_rfl) rfl ?_
  refine gl_callf rfl rfl rfl rfl Tryd.func24 rfl rfl rfl (bitsOf_calls _ _ _ SM p.M _ (D.rM.old hS) D.nM hp.M (fun l h => (hp.fM l h).1)) ?_
  rintro _ w13 ⟨A13, c13, S13, K13, rfl, h13, hU13⟩
  refine ⟨_, rfl, ?_⟩
  have hS := hS.more h13
  refine gl_nil ?_
  refine ga_next ((hS.blank 1).pre 2) fun hK => ?_
  refine ga_take 17 rfl rfl rfl rfl (by kernel_rfl) (fun _ _ _ _ _ h => h) hK (fun w1 hS => op_buildG rfl plan32 rfl rfl) ?_
  refine ga_one 18 (by kernel_rfl) rfl ?_
  refine gl_storeM 1 hS el32 rfl rfl rfl rfl rfl rfl rfl rfl rfl fun wways_go_91 hS => ?_
  refine gl_nil ?_
  refine ga_next ((hS.blank 1).pre 2) fun hK => ?_
  refine ga_done (by kernel_rfl) ?_
  refine hK2 _ _ ?_
  clear hK2; try clear K2
  refine gc_ret ?_
  try simp only [x_then_ret, x_block_ret]
  refine gk_res1 rfl (⟨_, rfl, run_loadVarB 1 Tryd.underlying32 rfl el32 hS rfl rfl rfl⟩) ?_
  have fin : ∀ (w' : World) (x y : It), LsU w' K8 A8 S8 p.G ∧ LsU w' K13 A13 S13 p.M → St w.heap.size w w' ([] ++ [x, y, It.row A5 c5 82 1 p.C.length (p.C.map uV), .keep K8 w8, .keep K13 w13]) → ∃ K, St w.heap.size w w' [.keep K w'] ∧ PrU w' K (A5, p.C.length, c5) (A8, p.G.length, c8) (A13, p.M.length, c13) S8 S13 p := by
    intro w' x y hU hS
    exact ⟨_, hS.keepRest, rdE_of (hS.rowRd (i := 2) rfl (keep_mem (.tail _ (.tail _ (.head _))))) rfl, rfl, by have := hp.C; omega, hp.fC, hU.1.weaken (keep_mem (x := .keep K8 w8) (.tail _ (.tail _ (.tail _ (.head _))))), rfl, by have := hp.G; omega,
      hU.2.weaken (keep_mem (x := .keep K13 w13) (.tail _ (.tail _ (.tail _ (.tail _ (.head _)))))), rfl, by have := hp.M; omega, hp.iT, hp.iK, hp.iD, hp.iS⟩
  refine ⟨(A5, p.C.length, c5), (A8, p.G.length, c8), (A13, p.M.length, c13), S8, S13, ?_⟩
  refine Exists.imp (fun K h => ⟨rfl, h⟩) (?_ : ∃ K, St w.heap.size w _ [.keep K _] ∧ PrU _ K (A5, p.C.length, c5) (A8, p.G.length, c8) (A13, p.M.length, c13) S8 S13 p)
  first
    | exact fin _ _ _ ⟨LsU.keep hS (i := 3) rfl hU8, LsU.keep hS (i := 4) rfl hU13⟩ hS
    | exact fin _ _ _ ⟨LsU.keep hS (i := 2) rfl hU8, LsU.keep hS (i := 4) rfl hU13⟩ (hS.permute (.cons _ (.cons _ (p_bac _ _ _))))
    | exact fin _ _ _ ⟨LsU.keep hS (i := 4) rfl hU8, LsU.keep hS (i := 3) rfl hU13⟩ (hS.permute (.cons _ (.cons _ (p_acb _ _ _))))
    | exact fin _ _ _ ⟨LsU.keep hS (i := 2) rfl hU8, LsU.keep hS (i := 3) rfl hU13⟩ (hS.permute (.cons _ (.cons _ (p_bca _ _ _))))
    | exact fin _ _ _ ⟨LsU.keep hS (i := 4) rfl hU8, LsU.keep hS (i := 2) rfl hU13⟩ (hS.permute (.cons _ (.cons _ (p_cab _ _ _))))
    | exact fin _ _ _ ⟨LsU.keep hS (i := 3) rfl hU8, LsU.keep hS (i := 2) rfl hU13⟩ (hS.permute (.cons _ (.cons _ (p_cba _ _ _))))
theorem sameProp_calls (C G M C' G' M' : Sv) (SG SM SG' SM' : List Sv) (p : Px) (w : World) {ok ok' : Nat → Prop} (D : PrU w ok C G M SG SM p) (D' : PrU w ok' C' G' M' SG' SM' p) (hp : p.small) :
    Calls Tryd.prog 29 ⟨[.agg ⟨propC C G M p⟩, .agg ⟨propC C' G' M' p⟩]⟩ w fun e w' => e = .returned (.bool true) ∧ Below w.heap.size w w' := by
  obtain ⟨C1, C2, C3⟩ := C
  obtain ⟨G1, G2, G3⟩ := G
  obtain ⟨M1, M2, M3⟩ := M
  obtain ⟨C1', C2', C3'⟩ := C'
  obtain ⟨G1', G2', G3'⟩ := G'
  obtain ⟨M1', M2', M3'⟩ := M'
  refine gc_enter (N := 52) Tryd.func29 rfl rfl rfl [(0, _), (1, _)] rfl ?_
  have hS := St.start w
  refine gc_seq fun K1 hK1 => ?_
  refine gc_region ?_
  refine gl_box hS rfl rfl rfl rfl rfl fun g2 w2 hS => ?_
  refine gl_box hS rfl rfl rfl rfl rfl fun g3 w3 hS => ?_
  refine gl_op rfl rfl rfl (op_pure hT rfl) ?_
  refine gl_nil ?_
  refine hK1 _ _ ?_
  clear hK1; try clear K1
  refine gc_seq fun K2 hK2 => ?_
  refine gc_region ?_
  refine gl_op rfl rfl rfl (op_fieldB 0 rfl Tryd.underlying32 rfl el29 rfl rfl) ?_
  refine gl_op rfl rfl rfl (op_loadB 0 hT hS rfl rfl rfl rfl rfl rfl) ?_
  refine gl_op rfl rfl rfl (op_fieldB 0 rfl Tryd.underlying32 rfl el29 rfl rfl) ?_
  refine gl_op rfl rfl rfl (op_loadB 1 hT hS rfl rfl rfl rfl rfl rfl) ?_
  refine gl_callf rfl rfl rfl rfl Tryd.func42 rfl rfl rfl (sameList_calls _ _ _ _ _ _ p.C _ (D.rC.old hS) D.nC (D'.rC.old hS) D'.nC hp.C) ?_
  rintro _ w9 ⟨rfl, hb9⟩
  refine ⟨_, rfl, ?_⟩
  have hS := hS.grown hb9
  refine gl_op rfl rfl rfl (op_pure hT rfl) ?_
  refine gl_un rfl rfl rfl rfl ?_
  refine gl_op rfl rfl rfl (op_fieldB 1 rfl Tryd.underlying32 rfl el30 rfl rfl) ?_
  refine gl_un rfl rfl rfl rfl ?_
  refine gl_op rfl rfl rfl (op_loadB 0 hT hS rfl rfl rfl rfl rfl rfl) ?_
  refine gl_un rfl rfl rfl rfl ?_
  refine gl_op rfl rfl rfl (op_fieldB 1 rfl Tryd.underlying32 rfl el30 rfl rfl) ?_
  refine gl_un rfl rfl rfl rfl ?_
  refine gl_op rfl rfl rfl (op_loadB 1 hT hS rfl rfl rfl rfl rfl rfl) ?_
  refine gl_un rfl rfl rfl rfl ?_
  refine gl_callf rfl rfl rfl rfl Tryd.func43 rfl rfl rfl (sameLists_calls _ _ _ _ _ _ SG SG' p.G _ (D.rG.old hS) D.nG (D'.rG.old hS) D'.nG hp.G (fun l h => (hp.fG l h).1)) ?_
  rintro _ w15 ⟨rfl, hb15⟩
  refine ⟨_, rfl, ?_⟩
  have hS := hS.grown hb15
  refine gl_op rfl rfl rfl (op_pure hT rfl) ?_
  refine gl_op rfl rfl rfl (op_pure hT rfl) ?_
  refine gl_un rfl rfl rfl rfl ?_
  refine gl_op rfl rfl rfl (op_fieldB 2 rfl Tryd.underlying32 rfl el3 rfl rfl) ?_
  refine gl_un rfl rfl rfl rfl ?_
  refine gl_op rfl rfl rfl (op_loadB 0 hT hS rfl rfl rfl rfl rfl rfl) ?_
  refine gl_un rfl rfl rfl rfl ?_
  refine gl_op rfl rfl rfl (op_fieldB 2 rfl Tryd.underlying32 rfl el3 rfl rfl) ?_
  refine gl_un rfl rfl rfl rfl ?_
  refine gl_op rfl rfl rfl (op_loadB 1 hT hS rfl rfl rfl rfl rfl rfl) ?_
  refine gl_un rfl rfl rfl rfl ?_
  refine gl_op rfl rfl rfl (op_pure hT rfl) ?_
  refine gl_spell 22 (v := .bool true) rfl (by simp) ?_
  refine gl_op rfl rfl rfl (op_pure hT rfl) ?_
  refine gl_op rfl rfl rfl (op_pure hT rfl) ?_
  refine gl_un rfl rfl rfl rfl ?_
  refine gl_op rfl rfl rfl (op_fieldB 3 rfl Tryd.underlying32 rfl el30 rfl rfl) ?_
  refine gl_un rfl rfl rfl rfl ?_
  refine gl_op rfl rfl rfl (op_loadB 0 hT hS rfl rfl rfl rfl rfl rfl) ?_
  refine gl_un rfl rfl rfl rfl ?_
  refine gl_op rfl rfl rfl (op_fieldB 3 rfl Tryd.underlying32 rfl el30 rfl rfl) ?_
  refine gl_un rfl rfl rfl rfl ?_
  refine gl_op rfl rfl rfl (op_loadB 1 hT hS rfl rfl rfl rfl rfl rfl) ?_
  refine gl_un rfl rfl rfl rfl ?_
  refine gl_callf rfl rfl rfl rfl Tryd.func43 rfl rfl rfl (sameLists_calls _ _ _ _ _ _ SM SM' p.M _ (D.rM.old hS) D.nM (D'.rM.old hS) D'.nM hp.M (fun l h => (hp.fM l h).1)) ?_
  rintro _ w29 ⟨rfl, hb29⟩
  refine ⟨_, rfl, ?_⟩
  have hS := hS.grown hb29
  refine gl_op rfl rfl rfl (op_pure hT rfl) ?_
  refine gl_op rfl rfl rfl (op_pure hT rfl) ?_
  refine gl_un rfl rfl rfl rfl ?_
  refine gl_op rfl rfl rfl (op_fieldB 4 rfl Tryd.underlying32 rfl el3 rfl rfl) ?_
  refine gl_un rfl rfl rfl rfl ?_
  refine gl_op rfl rfl rfl (op_loadB 0 hT hS rfl rfl rfl rfl rfl rfl) ?_
  refine gl_un rfl rfl rfl rfl ?_
  refine gl_op rfl rfl rfl (op_fieldB 4 rfl Tryd.underlying32 rfl el3 rfl rfl) ?_
  refine gl_un rfl rfl rfl rfl ?_
  refine gl_op rfl rfl rfl (op_loadB 1 hT hS rfl rfl rfl rfl rfl rfl) ?_
  refine gl_un rfl rfl rfl rfl ?_
  refine gl_op rfl rfl rfl (op_pure hT rfl) ?_
  refine gl_spell 36 (v := .bool true) rfl (by simp) ?_
  refine gl_op rfl rfl rfl (op_pure hT rfl) ?_
  refine gl_op rfl rfl rfl (op_pure hT rfl) ?_
  refine gl_un rfl rfl rfl rfl ?_
  refine gl_op rfl rfl rfl (op_fieldB 5 rfl Tryd.underlying32 rfl el3 rfl rfl) ?_
  refine gl_un rfl rfl rfl rfl ?_
  refine gl_op rfl rfl rfl (op_loadB 0 hT hS rfl rfl rfl rfl rfl rfl) ?_
  refine gl_un rfl rfl rfl rfl ?_
  refine gl_op rfl rfl rfl (op_fieldB 5 rfl Tryd.underlying32 rfl el3 rfl rfl) ?_
  refine gl_un rfl rfl rfl rfl ?_
  refine gl_op rfl rfl rfl (op_loadB 1 hT hS rfl rfl rfl rfl rfl rfl) ?_
  refine gl_un rfl rfl rfl rfl ?_
  refine gl_op rfl rfl rfl (op_pure hT rfl) ?_
  refine gl_spell 43 (v := .bool true) rfl (by simp) ?_
  refine gl_op rfl rfl rfl (op_pure hT rfl) ?_
  refine gl_op rfl rfl rfl (op_pure hT rfl) ?_
  refine gl_un rfl rfl rfl rfl ?_
  refine gl_op rfl rfl rfl (op_fieldB 6 rfl Tryd.underlying32 rfl el3 rfl rfl) ?_
  refine gl_un rfl rfl rfl rfl ?_
  refine gl_op rfl rfl rfl (op_loadB 0 hT hS rfl rfl rfl rfl rfl rfl) ?_
  refine gl_un rfl rfl rfl rfl ?_
  refine gl_op rfl rfl rfl (op_fieldB 6 rfl Tryd.underlying32 rfl el3 rfl rfl) ?_
  refine gl_un rfl rfl rfl rfl ?_
  refine gl_op rfl rfl rfl (op_loadB 1 hT hS rfl rfl rfl rfl rfl rfl) ?_
  refine gl_un rfl rfl rfl rfl ?_
  refine gl_op rfl rfl rfl (op_pure hT rfl) ?_
  refine gl_spell 50 (v := .bool true) rfl (by simp) ?_
  refine gl_op rfl rfl rfl (op_pure hT rfl) ?_
  refine gl_op rfl rfl rfl (op_pure hT rfl) ?_
  refine gl_nil ?_
  refine hK2 _ _ ?_
  clear hK2; try clear K2
  refine gc_ret ?_
  try simp only [x_then_ret, x_block_ret]
  refine gk_ret1 rfl rfl ?_
  exact ⟨rfl, hS.below⟩
theorem propStands_calls (C G M C' G' M' : Sv) (SG SM SG' SM' : List Sv) (mg mm : Sv) (p : Px) (w : World) {ok ok' : Nat → Prop} (D : PrL w ok C G M SG SM mg mm p) (D' : PrU w ok' C' G' M' SG' SM' p) (hp : p.small) :
    Calls Tryd.prog 13 ⟨[.agg ⟨propC C G M p⟩, .agg ⟨propC C' G' M' p⟩]⟩ w fun e w' => e = .returned (.bool true) ∧ Below w.heap.size w w' := by
  obtain ⟨C1, C2, C3⟩ := C
  obtain ⟨G1, G2, G3⟩ := G
  obtain ⟨M1, M2, M3⟩ := M
  obtain ⟨C1', C2', C3'⟩ := C'
  obtain ⟨G1', G2', G3'⟩ := G'
  obtain ⟨M1', M2', M3'⟩ := M'
  have hDM := D.prM hp
  refine gc_enter (N := 30) Tryd.func13 rfl rfl rfl [(0, _), (1, _)] rfl ?_
  have hS := St.start w
  refine gc_seq fun K1 hK1 => ?_
  refine gc_region ?_
  refine gl_box hS rfl rfl rfl rfl rfl fun g2 w2 hS => ?_
  refine gl_box hS rfl rfl rfl rfl rfl fun g3 w3 hS => ?_
  refine gl_op rfl rfl rfl (op_pure hT rfl) ?_
  refine gl_nil ?_
  refine hK1 _ _ ?_
  clear hK1; try clear K1
  refine gc_seq fun K2 hK2 => ?_
  refine gc_anyS hS (by kernel_rfl) rfl fun nq1 hK => ?_
  have hS := hS.dr nq1
  refine ga_take 0 rfl rfl rfl rfl (by kernel_rfl) (fun _ _ _ _ _ h => h) hK (fun w1 hS => op_loadG 0 Tryd.underlying27 rfl el27 hS rfl rfl rfl rfl rfl) ?_
  refine ga_take 2 rfl rfl rfl rfl (by kernel_rfl) (fun _ _ _ _ _ h => h) hK (fun w1 hS => op_loadG 1 Tryd.underlying32 rfl el32 hS rfl rfl rfl rfl rfl) ?_
  refine ga_one 1 (by kernel_rfl) rfl ?_
  refine gl_callf rfl rfl rfl rfl Tryd.func10 rfl rfl rfl (ofProp_calls (C1, C2, C3) (G1, G2, G3) (M1, M2, M3) SG SM p _ (hDM.old hS) hp) ?_
  rintro _ w6 ⟨C6, G6, M6, SG6, SM6, K6, rfl, h6, hU6⟩
  refine ⟨_, rfl, ?_⟩
  have hS := hS.more h6
  refine gl_nil ?_
  refine ga_next (hS.pre 2) fun hK => ?_
  refine ga_one 3 (by kernel_rfl) rfl ?_
  refine gl_callf rfl rfl rfl rfl Tryd.func29 rfl rfl rfl (sameProp_calls C6 G6 M6 (C1', C2', C3') (G1', G2', G3') (M1', M2', M3') SG6 SM6 SG' SM' p _ (PrU.keep hS (i := 2) rfl hU6) (D'.old hS) hp) ?_
  rintro _ w8 ⟨rfl, hb8⟩
  refine ⟨_, rfl, ?_⟩
  have hS := hS.grown hb8
  refine gl_nil ?_
  refine ga_next (hS.pre 2) fun hK => ?_
  refine ga_take 4 rfl rfl rfl rfl (by kernel_rfl) (fun _ _ _ _ _ h => h) hK (fun w1 hS => op_pure hT rfl) ?_
  refine ga_take_at 5 rfl rfl rfl rfl rfl rfl rfl (by kernel_rfl) (fun _ _ _ _ _ h => h) hK (fun w1 hS => op_fieldB 0 rfl Tryd.underlying27 rfl el24 rfl rfl) ?_
  refine ga_take_at 6 rfl rfl rfl rfl rfl rfl rfl (by kernel_rfl) (fun _ _ _ _ _ h => h) hK (fun w1 hS => op_loadB 0 hT hS rfl rfl rfl rfl rfl rfl) ?_
  refine ga_take_at 7 rfl rfl rfl rfl rfl rfl rfl (by kernel_rfl) (fun _ _ _ _ _ h => h) hK (fun w1 hS => op_fieldB 0 rfl Tryd.underlying32 rfl el29 rfl rfl) ?_
  refine ga_take_at 8 rfl rfl rfl rfl rfl rfl rfl (by kernel_rfl) (fun _ _ _ _ _ h => h) hK (fun w1 hS => op_loadB 1 hT hS rfl rfl rfl rfl rfl rfl) ?_
  refine ga_one 9 (by kernel_rfl) rfl ?_
  refine gl_un rfl rfl rfl rfl ?_
  refine gl_callf rfl rfl rfl rfl Tryd.func30 rfl rfl rfl (stand_calls _ _ _ _ _ _ p.C _ (D.rC.old (by decide) hS) D.nC D.cC (D'.rC.old hS) D'.nC hp.C) ?_
  rintro _ w14 ⟨rfl, hb14⟩
  refine ⟨_, rfl, ?_⟩
  have hS := hS.grown hb14
  refine gl_nil ?_
  refine ga_next (hS.pre 2) fun hK => ?_
  refine ga_take 10 rfl rfl rfl rfl (by kernel_rfl) (fun _ _ _ _ _ h => h) hK (fun w1 hS => op_pure hT rfl) ?_
  refine ga_take 11 rfl rfl rfl rfl (by kernel_rfl) (fun _ _ _ _ _ h => h) hK (fun w1 hS => op_pure hT rfl) ?_
  refine ga_take_at 12 rfl rfl rfl rfl rfl rfl rfl (by kernel_rfl) (fun _ _ _ _ _ h => h) hK (fun w1 hS => op_fieldB 1 rfl Tryd.underlying27 rfl el25 rfl rfl) ?_
  refine ga_take_at 13 rfl rfl rfl rfl rfl rfl rfl (by kernel_rfl) (fun _ _ _ _ _ h => h) hK (fun w1 hS => op_loadB 0 hT hS rfl rfl rfl rfl rfl rfl) ?_
  refine ga_take_at 14 rfl rfl rfl rfl rfl rfl rfl (by kernel_rfl) (fun _ _ _ _ _ h => h) hK (fun w1 hS => op_fieldB 1 rfl Tryd.underlying32 rfl el30 rfl rfl) ?_
  refine ga_take_at 15 rfl rfl rfl rfl rfl rfl rfl (by kernel_rfl) (fun _ _ _ _ _ h => h) hK (fun w1 hS => op_loadB 1 hT hS rfl rfl rfl rfl rfl rfl) ?_
  refine ga_one 16 (by kernel_rfl) rfl ?_
  refine gl_un rfl rfl rfl rfl ?_
  refine gl_callf rfl rfl rfl rfl Tryd.func31 rfl rfl rfl (listsStand_calls _ _ _ SG mg _ _ _ SG' p.G _ (D.rG.old hS) D.nG (D'.rG.old hS) D'.nG hp.G (fun l h => (hp.fG l h).1)) ?_
  rintro _ w21 ⟨rfl, hb21⟩
  refine ⟨_, rfl, ?_⟩
  have hS := hS.grown hb21
  refine gl_nil ?_
  refine ga_next (hS.pre 2) fun hK => ?_
  refine ga_take 17 rfl rfl rfl rfl (by kernel_rfl) (fun _ _ _ _ _ h => h) hK (fun w1 hS => op_pure hT rfl) ?_
  refine ga_take 18 rfl rfl rfl rfl (by kernel_rfl) (fun _ _ _ _ _ h => h) hK (fun w1 hS => op_pure hT rfl) ?_
  refine ga_take_at 19 rfl rfl rfl rfl rfl rfl rfl (by kernel_rfl) (fun _ _ _ _ _ h => h) hK (fun w1 hS => op_fieldB 3 rfl Tryd.underlying27 rfl el25 rfl rfl) ?_
  refine ga_take_at 20 rfl rfl rfl rfl rfl rfl rfl (by kernel_rfl) (fun _ _ _ _ _ h => h) hK (fun w1 hS => op_loadB 0 hT hS rfl rfl rfl rfl rfl rfl) ?_
  refine ga_take_at 21 rfl rfl rfl rfl rfl rfl rfl (by kernel_rfl) (fun _ _ _ _ _ h => h) hK (fun w1 hS => op_fieldB 3 rfl Tryd.underlying32 rfl el30 rfl rfl) ?_
  refine ga_take_at 22 rfl rfl rfl rfl rfl rfl rfl (by kernel_rfl) (fun _ _ _ _ _ h => h) hK (fun w1 hS => op_loadB 1 hT hS rfl rfl rfl rfl rfl rfl) ?_
  refine ga_one 23 (by kernel_rfl) rfl ?_
  refine gl_un rfl rfl rfl rfl ?_
  refine gl_callf rfl rfl rfl rfl Tryd.func31 rfl rfl rfl (listsStand_calls _ _ _ SM mm _ _ _ SM' p.M _ (D.rM.old hS) D.nM (D'.rM.old hS) D'.nM hp.M (fun l h => (hp.fM l h).1)) ?_
  rintro _ w28 ⟨rfl, hb28⟩
  refine ⟨_, rfl, ?_⟩
  have hS := hS.grown hb28
  refine gl_nil ?_
  refine ga_next (hS.pre 2) fun hK => ?_
  refine ga_take 24 rfl rfl rfl rfl (by kernel_rfl) (fun _ _ _ _ _ h => h) hK (fun w1 hS => op_pure hT rfl) ?_
  refine ga_take 25 rfl rfl rfl rfl (by kernel_rfl) (fun _ _ _ _ _ h => h) hK (fun w1 hS => op_pure hT rfl) ?_
  refine ga_done (by kernel_rfl) ?_
  refine hK2 _ _ ?_
  clear hK2; try clear K2
  refine gc_ret ?_
  try simp only [x_then_ret, x_block_ret]
  refine gk_ret1 rfl rfl ?_
  exact ⟨rfl, hS.below⟩
theorem ModelProps_calls (C G M : Sv) (SG SM : List Sv) (p : Px) (n out : Int) (w : World) {ok : Nat → Prop} (D : PrM w ok C G M SG SM p) (hC : p.C.length ≤ C.2.2) (hG : ∀ x ∈ SG, x.2.1 ≤ x.2.2) (hM : ∀ x ∈ SM, x.2.1 ≤ x.2.2) (ho : i64 out) (hU : Tabs w) :
    Calls Tryd.prog 4 ⟨[.agg ⟨propC C G M p⟩, .int .i64 n, .int .i64 out]⟩ w fun e w' => e = .returned (.bool true) ∧ Below w.heap.size w w' := by
  have hfG : ∀ l ∈ p.G, ∀ u ∈ l, u < 18446744073709551616 := by
    intro l hl
    obtain ⟨i, hi⟩ := List.getElem?_of_mem hl
    obtain ⟨x, hx⟩ : ∃ x, SG[i]? = some x := ⟨_, List.getElem?_eq_getElem (by have := (List.getElem?_eq_some_iff.1 hi).1; have := D.rG.len; omega)⟩
    exact (D.rG.rd i x l hx hi).2.2.2
  have hfM : ∀ l ∈ p.M, ∀ u ∈ l, u < 18446744073709551616 := by
    intro l hl
    obtain ⟨i, hi⟩ := List.getElem?_of_mem hl
    obtain ⟨x, hx⟩ : ∃ x, SM[i]? = some x := ⟨_, List.getElem?_eq_getElem (by have := (List.getElem?_eq_some_iff.1 hi).1; have := D.rM.len; omega)⟩
    exact (D.rM.rd i x l hx hi).2.2.2
  have hp := cutP_small D.fC hfG hfM D.iT D.iK D.iD D.iS
  refine gc_enter (N := 46) Tryd.func4 rfl rfl rfl [(0, _), (1, _), (2, _)] rfl ?_
  have hS := St.start w
  refine gc_seq fun K1 hK1 => ?_
  refine gc_region ?_
  refine gl_box hS rfl rfl rfl rfl rfl fun g3 w3 hS => ?_
  refine gl_op rfl rfl rfl (op_pure hT rfl) ?_
  refine gl_nil ?_
  refine hK1 _ _ ?_
  clear hK1; try clear K1
  refine gc_seq fun K2 hK2 => ?_
  refine gc_seq fun K3 hK3 => ?_
  refine gc_region ?_
  refine gl_callf rfl rfl rfl rfl Tryd.func6 rfl rfl rfl (told_calls _ (hU.old hS)) ?_
  rintro _ w13 ⟨rfl, hb13⟩
  refine ⟨_, rfl, ?_⟩
  have hS := hS.grown hb13
  refine gl_op rfl rfl rfl (op_pure hT rfl) ?_
  refine gl_nil ?_
  refine hK3 _ _ ?_
  clear hK3; try clear K3
  refine gc_cond_f rfl ?_
  refine gc_skip ?_
  refine hK2 _ _ ?_
  clear hK2; try clear K2
  refine gc_seq fun K4 hK4 => ?_
  refine gc_region ?_
  refine gl_op rfl rfl rfl (op_loadG 0 Tryd.underlying27 rfl el27 hS rfl rfl rfl rfl rfl) ?_
  refine gl_callf rfl rfl rfl rfl Tryd.func9 rfl rfl rfl (prop6_calls C G M SG SM p _ (D.old hS) hC hG hM) ?_
  rintro _ w16 ⟨C', G', M', SG', SM', mg, mm, K16, rfl, h16, hL16⟩
  refine ⟨_, rfl, ?_⟩
  have hS := hS.more h16
  refine gl_alloc el27 hS rfl rfl rfl rfl fun g7 w7 hS => ?_
  refine gl_storeM 2 hS el27 rfl rfl rfl rfl rfl rfl rfl rfl rfl fun wlaw_go_227 hS => ?_
  refine gl_nil ?_
  refine hK4 _ _ ?_
  clear hK4; try clear K4
  refine gc_seq fun K5 hK5 => ?_
  refine gc_region ?_
  refine gl_op rfl rfl rfl (op_loadG 2 Tryd.underlying27 rfl el27 hS rfl rfl rfl rfl rfl) ?_
  refine gl_callf rfl rfl rfl rfl Tryd.func10 rfl rfl rfl (ofProp_calls C' G' M' SG' SM' (cutP p) _ ((PrL.keep hS (i := 1) rfl hL16).prM hp) hp) ?_
  rintro _ w18 ⟨C2, G2, M2, SG2, SM2, K18, rfl, h18, hU18⟩
  refine ⟨_, rfl, ?_⟩
  have hS := hS.more h18
  refine gl_alloc el32 hS rfl rfl rfl rfl fun g8 w8 hS => ?_
  refine gl_storeM 4 hS el32 rfl rfl rfl rfl rfl rfl rfl rfl rfl fun wlaw_go_228 hS => ?_
  refine gl_nil ?_
  refine hK5 _ _ ?_
  clear hK5; try clear K5
  refine gc_seq fun K6 hK6 => ?_
  refine gc_region ?_
  refine gl_op rfl rfl rfl (op_loadG 2 Tryd.underlying27 rfl el27 hS rfl rfl rfl rfl rfl) ?_
  refine gl_op rfl rfl rfl (op_pure hT rfl) ?_
  refine gl_op rfl rfl rfl (op_pure hT rfl) ?_
  refine gl_callf rfl rfl rfl rfl Tryd.func11 rfl rfl rfl (checkProp_calls C' G' M' SG' SM' (cutP p) n out _ ((PrL.keep hS (i := 1) rfl hL16).prM hp)) ?_
  rintro _ w23 ⟨rfl, hb23⟩
  refine ⟨_, rfl, ?_⟩
  have hS := hS.grown hb23
  refine gl_op rfl rfl rfl (op_pure hT rfl) ?_
  refine gl_op rfl rfl rfl (op_pure hT rfl) ?_
  refine gl_op rfl rfl rfl (op_pure hT rfl) ?_
  refine gl_op rfl rfl rfl (op_pure hT rfl) ?_
  refine gl_op rfl rfl rfl (op_pure hT rfl) ?_
  refine gl_nil ?_
  refine hK6 _ _ ?_
  clear hK6; try clear K6
  refine gc_seq fun K7 hK7 => ?_
  refine gc_region ?_
  refine gl_op rfl rfl rfl (op_loadG 4 Tryd.underlying32 rfl el32 hS rfl rfl rfl rfl rfl) ?_
  refine gl_op rfl rfl rfl (op_pure hT rfl) ?_
  refine gl_op rfl rfl rfl (op_pure hT rfl) ?_
  refine gl_callf rfl rfl rfl rfl Tryd.func12 rfl rfl rfl (rCheckProp_calls C2 G2 M2 SG2 SM2 (cutP p) n out _ (PrU.keep hS (i := 3) rfl hU18) ho) ?_
  rintro _ w30 ⟨rfl, hb30⟩
  refine ⟨_, rfl, ?_⟩
  have hS := hS.grown hb30
  refine gl_op rfl rfl rfl (op_pure hT rfl) ?_
  refine gl_op rfl rfl rfl (op_pure hT rfl) ?_
  refine gl_op rfl rfl rfl (op_pure hT rfl) ?_
  refine gl_op rfl rfl rfl (op_pure hT rfl) ?_
  refine gl_op rfl rfl rfl (op_pure hT rfl) ?_
  refine gl_nil ?_
  refine hK7 _ _ ?_
  clear hK7; try clear K7
  refine gc_seq fun K8 hK8 => ?_
  refine gc_region ?_
  refine gl_op rfl rfl rfl (op_pure hT rfl) ?_
  refine gl_op rfl rfl rfl (op_pure hT rfl) ?_
  refine gl_op rfl rfl rfl (op_pure hT rfl) ?_
  refine gl_spell 35 (v := .bool true) rfl (by simp) ?_
  refine gl_op rfl rfl rfl (op_pure hT rfl) ?_
  refine gl_un rfl rfl rfl rfl ?_
  refine gl_op rfl rfl rfl (op_pure hT rfl) ?_
  refine gl_un rfl rfl rfl rfl ?_
  refine gl_op rfl rfl rfl (op_pure hT rfl) ?_
  refine gl_un rfl rfl rfl rfl ?_
  refine gl_op rfl rfl rfl (op_pure hT rfl) ?_
  refine gl_spell 39 (v := .bool true) rfl (by simp) ?_
  refine gl_op rfl rfl rfl (op_pure hT rfl) ?_
  refine gl_op rfl rfl rfl (op_pure hT rfl) ?_
  refine gl_un rfl rfl rfl rfl ?_
  refine gl_op rfl rfl rfl (op_loadG 2 Tryd.underlying27 rfl el27 hS rfl rfl rfl rfl rfl) ?_
  refine gl_un rfl rfl rfl rfl ?_
  refine gl_op rfl rfl rfl (op_loadG 4 Tryd.underlying32 rfl el32 hS rfl rfl rfl rfl rfl) ?_
  refine gl_un rfl rfl rfl rfl ?_
  refine gl_callf rfl rfl rfl rfl Tryd.func13 rfl rfl rfl (propStands_calls C' G' M' C2 G2 M2 SG' SM' SG2 SM2 mg mm (cutP p) _ (PrL.keep hS (i := 1) rfl hL16) (PrU.keep hS (i := 3) rfl hU18) hp) ?_
  rintro _ w44 ⟨rfl, hb44⟩
  refine ⟨_, rfl, ?_⟩
  have hS := hS.grown hb44
  refine gl_op rfl rfl rfl (op_pure hT rfl) ?_
  refine gl_op rfl rfl rfl (op_pure hT rfl) ?_
  refine gl_nil ?_
  refine hK8 _ _ ?_
  clear hK8; try clear K8
  refine gc_ret ?_
  try simp only [x_then_ret, x_block_ret]
  refine gk_ret1 rfl rfl ?_
  exact ⟨rfl, hS.below⟩
end Go.Proofs.YtkfhablonnjgeaaDoor
