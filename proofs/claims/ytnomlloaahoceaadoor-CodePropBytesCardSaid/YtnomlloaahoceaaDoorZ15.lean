/- Contracts of functions that CodePropBytes reaches, and words to say them. No condition. -/
import Derived.Test.YtnomlloaahoceaaDoorZ13
/- Contracts: a question laid with marks, its bits, what stands; ModelProps. No condition. -/

namespace Go.Proofs.YtnomlloaahoceaaDoor
open Go.RowKit
set_option linter.unusedVariables false
set_option linter.unusedSimpArgs false
structure PrL (w : World) (ok : Nat → Prop) (C G M : Sv) (SG SM : List Sv) (mg mm : Sv) (p : Px) : Prop where
  rC : Rd w ok C.1 (p.C.length + 9) 1 (laidC p.C)
  nC : C.2.1 = p.C.length
  cC : p.C.length + 9 ≤ C.2.2
  rG : LdM w ok G.1 G.2.2 SG p.G mg
  nG : G.2.1 = p.G.length
  rM : LdM w ok M.1 M.2.2 SM p.M mm
  nM : M.2.1 = p.M.length
theorem PrL.keep {w w0 : World} {B : Nat} {L : List It} (hS : St B w0 w L) {i : Nat} {ok : Nat → Prop} {wk : World} (hi : L[i]? = some (.keep ok wk)) {C G M : Sv} {SG SM : List Sv} {mg mm : Sv} {p : Px} (h : PrL wk ok C G M SG SM mg mm p) : PrL w ok C G M SG SM mg mm p :=
  ⟨hS.keepRd hi h.rC, h.nC, h.cC, LdM.keep hS hi h.rG, h.nG, LdM.keep hS hi h.rM, h.nM⟩
theorem PrU.keep {w w0 : World} {B : Nat} {L : List It} (hS : St B w0 w L) {i : Nat} {ok : Nat → Prop} {wk : World} (hi : L[i]? = some (.keep ok wk)) {C G M : Sv} {SG SM : List Sv} {p : Px} (h : PrU wk ok C G M SG SM p) : PrU w ok C G M SG SM p :=
  ⟨hS.keepRd hi h.rC, h.nC, h.lC, h.fC, LsU.keep hS hi h.rG, h.nG, h.lG, LsU.keep hS hi h.rM, h.nM, h.lM, h.iT, h.iK, h.iD, h.iS⟩
theorem PrM.old {w w' : World} {ok : Nat → Prop} {C G M : Sv} {SG SM : List Sv} {p : Px} {L0 : List It} (h : PrM w ok C G M SG SM p) (hS : St w.heap.size w w' L0) : PrM w' ok C G M SG SM p :=
  ⟨h.rC.old hS, h.nC, h.lC, h.fC, h.rG.old hS, h.nG, h.lG, h.rM.old hS, h.nM, h.lM, h.iT, h.iK, h.iD, h.iS⟩
theorem PrU.old {w w' : World} {ok : Nat → Prop} {C G M : Sv} {SG SM : List Sv} {p : Px} {L0 : List It} (h : PrU w ok C G M SG SM p) (hS : St w.heap.size w w' L0) : PrU w' ok C G M SG SM p :=
  ⟨h.rC.old hS, h.nC, h.lC, h.fC, h.rG.old hS, h.nG, h.lG, h.rM.old hS, h.nM, h.lM, h.iT, h.iK, h.iD, h.iS⟩
theorem LdM.old {w w' : World} {ok : Nat → Prop} {A : Option Addr} {c : Nat} {S : List Sv} {ls : List (List Nat)} {mk : Sv} {L0 : List It} (h : LdM w ok A c S ls mk) (hS : St w.heap.size w w' L0) : LdM w' ok A c S ls mk :=
  ⟨h.rS.old (by decide) hS, h.cp, h.len, fun j x l h1 h2 => ⟨(h.rd j x l h1 h2).1.old (by decide) hS, (h.rd j x l h1 h2).2⟩, h.rm.old (by decide) hS, h.nm⟩
structure Px.small (p : Px) : Prop where
  C : p.C.length ≤ 1048576
  fC : ∀ u ∈ p.C, u < 18446744073709551616
  G : p.G.length ≤ 1048576
  fG : ∀ l ∈ p.G, l.length ≤ 1048576 ∧ ∀ u ∈ l, u < 18446744073709551616
  M : p.M.length ≤ 1048576
  fM : ∀ l ∈ p.M, l.length ≤ 1048576 ∧ ∀ u ∈ l, u < 18446744073709551616
  iT : i64 p.T
  iK : i64 p.K
  iD : i64 p.D
  iS : i64 p.S
theorem ofProp_calls (C G M : Sv) (SG SM : List Sv) (p : Px) (w : World) {ok : Nat → Prop} (D : PrM w ok C G M SG SM p) (hp : p.small) :
    Calls Tryd.prog 5 ⟨[.agg ⟨propC C G M p⟩]⟩ w fun e w' => ∃ C' G' M' SG' SM' K, e = .returned (.agg ⟨propC C' G' M' p⟩) ∧ St w.heap.size w w' [.keep K w'] ∧ PrU w' K C' G' M' SG' SM' p := by
  obtain ⟨C1, C2, C3⟩ := C
  obtain ⟨G1, G2, G3⟩ := G
  obtain ⟨M1, M2, M3⟩ := M
  refine gc_enter (N := 21) Tryd.func5 rfl rfl rfl [(0, _)] rfl ?_
  have hS := St.start w
  refine gc_seq fun K1 hK1 => ?_
  refine gc_region ?_
  refine gl_box hS rfl rfl rfl rfl rfl fun g1 w1 hS => ?_
  refine gl_alloc el29 hS rfl rfl rfl rfl fun g2 w2 hS => ?_
  refine gl_nil ?_
  refine hK1 _ _ ?_
  clear hK1; try clear K1
  refine gc_seq fun K2 hK2 => ?_
  refine gc_anyS (hS.blank 1) (by kernel_rfl) rfl fun nq1 hK => ?_
  have hS := hS.dr nq1
  refine ga_take 0 rfl rfl rfl rfl (by kernel_rfl) (fun _ _ _ _ h => h) hK (fun w1 hS => op_fieldB 0 rfl Tryd.underlying25 rfl el22 rfl rfl) ?_
  refine ga_take 1 rfl rfl rfl rfl (by kernel_rfl) (fun _ _ _ _ h => h) hK (fun w1 hS => op_loadB 0 hT hS rfl rfl rfl rfl rfl rfl) ?_
  refine ga_take 3 rfl rfl rfl rfl (by kernel_rfl) (fun _ _ _ _ h => h) hK (fun w1 hS => op_fieldB 1 rfl Tryd.underlying25 rfl el23 rfl rfl) ?_
  refine ga_take 4 rfl rfl rfl rfl (by kernel_rfl) (fun _ _ _ _ h => h) hK (fun w1 hS => op_loadB 0 hT hS rfl rfl rfl rfl rfl rfl) ?_
  refine ga_take 6 rfl rfl rfl rfl (by kernel_rfl) (fun _ _ _ _ h => h) hK (fun w1 hS => op_fieldB 2 rfl Tryd.underlying25 rfl el3 rfl rfl) ?_
  refine ga_take 7 rfl rfl rfl rfl (by kernel_rfl) (fun _ _ _ _ h => h) hK (fun w1 hS => op_loadB 0 hT hS rfl rfl rfl rfl rfl rfl) ?_
  refine ga_take 8 rfl rfl rfl rfl (by kernel_rfl) (fun _ _ _ _ h => h) hK (fun w1 hS => op_fieldB 3 rfl Tryd.underlying25 rfl el23 rfl rfl) ?_
  refine ga_take 9 rfl rfl rfl rfl (by kernel_rfl) (fun _ _ _ _ h => h) hK (fun w1 hS => op_loadB 0 hT hS rfl rfl rfl rfl rfl rfl) ?_
  refine ga_take 11 rfl rfl rfl rfl (by kernel_rfl) (fun _ _ _ _ h => h) hK (fun w1 hS => op_fieldB 4 rfl Tryd.underlying25 rfl el3 rfl rfl) ?_
  refine ga_take 12 rfl rfl rfl rfl (by kernel_rfl) (fun _ _ _ _ h => h) hK (fun w1 hS => op_loadB 0 hT hS rfl rfl rfl rfl rfl rfl) ?_
  refine ga_take 13 rfl rfl rfl rfl (by kernel_rfl) (fun _ _ _ _ h => h) hK (fun w1 hS => op_fieldB 5 rfl Tryd.underlying25 rfl el3 rfl rfl) ?_
  refine ga_take 14 rfl rfl rfl rfl (by kernel_rfl) (fun _ _ _ _ h => h) hK (fun w1 hS => op_loadB 0 hT hS rfl rfl rfl rfl rfl rfl) ?_
  refine ga_take 15 rfl rfl rfl rfl (by kernel_rfl) (fun _ _ _ _ h => h) hK (fun w1 hS => op_fieldB 6 rfl Tryd.underlying25 rfl el3 rfl rfl) ?_
  refine ga_take 16 rfl rfl rfl rfl (by kernel_rfl) (fun _ _ _ _ h => h) hK (fun w1 hS => op_loadB 0 hT hS rfl rfl rfl rfl rfl rfl) ?_
  refine ga_one 2 (by kernel_rfl) rfl ?_
  refine gl_callf rfl rfl rfl rfl Tryd.func14 rfl rfl rfl (bits_calls _ _ _ p.C _ (D.rC.old hS) D.nC hp.C) ?_
  rintro _ w5 ⟨A5, c5, rfl, h5⟩
  refine ⟨_, rfl, ?_⟩
  have hS := hS.more h5
  refine gl_nil ?_
  refine ga_next ((hS.blank 1).pre 2) fun hK => ?_
  refine ga_one 5 (by kernel_rfl) rfl ?_
  refine gl_callf rfl rfl rfl rfl Tryd.func15 rfl rfl rfl (bitsOf_calls _ _ _ SG p.G _ (D.rG.old hS) D.nG hp.G (fun l h => (hp.fG l h).1)) ?_
  rintro _ w8 ⟨A8, c8, S8, K8, rfl, h8, hU8⟩
  refine ⟨_, rfl, ?_⟩
  have hS := hS.more h8
  refine gl_nil ?_
  refine ga_next ((hS.blank 1).pre 2) fun hK => ?_
  refine ga_one 10 (by kernel_rfl) rfl ?_
  refine gl_callf rfl rfl rfl rfl Tryd.func15 rfl rfl rfl (bitsOf_calls _ _ _ SM p.M _ (D.rM.old hS) D.nM hp.M (fun l h => (hp.fM l h).1)) ?_
  rintro _ w13 ⟨A13, c13, S13, K13, rfl, h13, hU13⟩
  refine ⟨_, rfl, ?_⟩
  have hS := hS.more h13
  refine gl_nil ?_
  refine ga_next ((hS.blank 1).pre 2) fun hK => ?_
  refine ga_take 17 rfl rfl rfl rfl (by kernel_rfl) (fun _ _ _ _ h => h) hK (fun w1 hS => op_buildG rfl plan29 rfl rfl) ?_
  refine ga_one 18 (by kernel_rfl) rfl ?_
  refine gl_storeM 1 hS el29 rfl rfl rfl rfl rfl rfl rfl rfl rfl fun wways_go_91 hS => ?_
  refine gl_nil ?_
  refine ga_next ((hS.blank 1).pre 2) fun hK => ?_
  refine ga_done (by kernel_rfl) ?_
  refine hK2 _ _ ?_
  clear hK2; try clear K2
  refine gc_ret ?_
  try simp only [x_then_ret, x_block_ret]
  refine gk_res1 rfl (⟨_, rfl, run_loadVarB 1 Tryd.underlying29 rfl el29 hS rfl rfl rfl⟩) ?_
  have fin : ∀ (w' : World) (x y : It), LsU w' K8 A8 S8 p.G ∧ LsU w' K13 A13 S13 p.M → St w.heap.size w w' ([] ++ [x, y, It.row A5 c5 77 1 p.C.length (p.C.map uV), .keep K8 w8, .keep K13 w13]) → ∃ K, St w.heap.size w w' [.keep K w'] ∧ PrU w' K (A5, p.C.length, c5) (A8, p.G.length, c8) (A13, p.M.length, c13) S8 S13 p := by
    intro w' x y hU hS
    exact ⟨_, hS.keepRest, rdE_of (hS.rowRd (i := 2) rfl (keep_mem (.tail _ (.tail _ (.head _))))) rfl, rfl, by have := hp.C; omega, hp.fC, hU.1.weaken (keep_mem (x := .keep K8 w8) (.tail _ (.tail _ (.tail _ (.head _))))), rfl, by have := hp.G; omega,
      hU.2.weaken (keep_mem (x := .keep K13 w13) (.tail _ (.tail _ (.tail _ (.tail _ (.head _)))))), rfl, by have := hp.M; omega, hp.iT, hp.iK, hp.iD, hp.iS⟩
  refine ⟨(A5, p.C.length, c5), (A8, p.G.length, c8), (A13, p.M.length, c13), S8, S13, ?_⟩
  refine Exists.imp (fun K h => ⟨rfl, h⟩) (?_ : ∃ K, St w.heap.size w _ [.keep K _] ∧ PrU _ K (A5, p.C.length, c5) (A8, p.G.length, c8) (A13, p.M.length, c13) S8 S13 p)
  first
    | exact fin _ _ _ ⟨LsU.keep hS (i := 3) rfl hU8, LsU.keep hS (i := 4) rfl hU13⟩ hS
    | exact fin _ _ _ ⟨LsU.keep hS (i := 2) rfl hU8, LsU.keep hS (i := 4) rfl hU13⟩ (hS.permute (.cons _ (.cons _ (p_bac _ _ _))))
    | exact fin _ _ _ ⟨LsU.keep hS (i := 4) rfl hU8, LsU.keep hS (i := 3) rfl hU13⟩ (hS.permute (.cons _ (.cons _ (p_acb _ _ _))))
    | exact fin _ _ _ ⟨LsU.keep hS (i := 2) rfl hU8, LsU.keep hS (i := 3) rfl hU13⟩ (hS.permute (.cons _ (.cons _ (p_bca _ _ _))))
    | exact fin _ _ _ ⟨LsU.keep hS (i := 4) rfl hU8, LsU.keep hS (i := 2) rfl hU13⟩ (hS.permute (.cons _ (.cons _ (p_cab _ _ _))))
    | exact fin _ _ _ ⟨LsU.keep hS (i := 3) rfl hU8, LsU.keep hS (i := 2) rfl hU13⟩ (hS.permute (.cons _ (.cons _ (p_cba _ _ _))))
theorem sameProp_calls (C G M C' G' M' : Sv) (SG SM SG' SM' : List Sv) (p : Px) (w : World) {ok ok' : Nat → Prop} (D : PrU w ok C G M SG SM p) (D' : PrU w ok' C' G' M' SG' SM' p) (hp : p.small) :
    Calls Tryd.prog 11 ⟨[.agg ⟨propC C G M p⟩, .agg ⟨propC C' G' M' p⟩]⟩ w fun e w' => e = .returned (.bool true) ∧ Below w.heap.size w w' := by
  obtain ⟨C1, C2, C3⟩ := C
  obtain ⟨G1, G2, G3⟩ := G
  obtain ⟨M1, M2, M3⟩ := M
  obtain ⟨C1', C2', C3'⟩ := C'
  obtain ⟨G1', G2', G3'⟩ := G'
  obtain ⟨M1', M2', M3'⟩ := M'
  refine gc_enter (N := 52) Tryd.func11 rfl rfl rfl [(0, _), (1, _)] rfl ?_
  have hS := St.start w
  refine gc_seq fun K1 hK1 => ?_
  refine gc_region ?_
  refine gl_box hS rfl rfl rfl rfl rfl fun g2 w2 hS => ?_
  refine gl_box hS rfl rfl rfl rfl rfl fun g3 w3 hS => ?_
  refine gl_op rfl rfl rfl (op_pure hT rfl) ?_
  refine gl_nil ?_
  refine hK1 _ _ ?_
  clear hK1; try clear K1
  refine gc_seq fun K2 hK2 => ?_
  refine gc_region ?_
  refine gl_op rfl rfl rfl (op_fieldB 0 rfl Tryd.underlying29 rfl el26 rfl rfl) ?_
  refine gl_op rfl rfl rfl (op_loadB 0 hT hS rfl rfl rfl rfl rfl rfl) ?_
  refine gl_op rfl rfl rfl (op_fieldB 0 rfl Tryd.underlying29 rfl el26 rfl rfl) ?_
  refine gl_op rfl rfl rfl (op_loadB 1 hT hS rfl rfl rfl rfl rfl rfl) ?_
  refine gl_callf rfl rfl rfl rfl Tryd.func24 rfl rfl rfl (sameList_calls _ _ _ _ _ _ p.C _ (D.rC.old hS) D.nC (D'.rC.old hS) D'.nC hp.C) ?_
  rintro _ w9 ⟨rfl, hb9⟩
  refine ⟨_, rfl, ?_⟩
  have hS := hS.grown hb9
  refine gl_op rfl rfl rfl (op_pure hT rfl) ?_
  refine gl_un rfl rfl rfl rfl ?_
  refine gl_op rfl rfl rfl (op_fieldB 1 rfl Tryd.underlying29 rfl el27 rfl rfl) ?_
  refine gl_un rfl rfl rfl rfl ?_
  refine gl_op rfl rfl rfl (op_loadB 0 hT hS rfl rfl rfl rfl rfl rfl) ?_
  refine gl_un rfl rfl rfl rfl ?_
  refine gl_op rfl rfl rfl (op_fieldB 1 rfl Tryd.underlying29 rfl el27 rfl rfl) ?_
  refine gl_un rfl rfl rfl rfl ?_
  refine gl_op rfl rfl rfl (op_loadB 1 hT hS rfl rfl rfl rfl rfl rfl) ?_
  refine gl_un rfl rfl rfl rfl ?_
  refine gl_callf rfl rfl rfl rfl Tryd.func25 rfl rfl rfl (sameLists_calls _ _ _ _ _ _ SG SG' p.G _ (D.rG.old hS) D.nG (D'.rG.old hS) D'.nG hp.G (fun l h => (hp.fG l h).1)) ?_
  rintro _ w15 ⟨rfl, hb15⟩
  refine ⟨_, rfl, ?_⟩
  have hS := hS.grown hb15
  refine gl_op rfl rfl rfl (op_pure hT rfl) ?_
  refine gl_op rfl rfl rfl (op_pure hT rfl) ?_
  refine gl_un rfl rfl rfl rfl ?_
  refine gl_op rfl rfl rfl (op_fieldB 2 rfl Tryd.underlying29 rfl el3 rfl rfl) ?_
  refine gl_un rfl rfl rfl rfl ?_
  refine gl_op rfl rfl rfl (op_loadB 0 hT hS rfl rfl rfl rfl rfl rfl) ?_
  refine gl_un rfl rfl rfl rfl ?_
  refine gl_op rfl rfl rfl (op_fieldB 2 rfl Tryd.underlying29 rfl el3 rfl rfl) ?_
  refine gl_un rfl rfl rfl rfl ?_
  refine gl_op rfl rfl rfl (op_loadB 1 hT hS rfl rfl rfl rfl rfl rfl) ?_
  refine gl_un rfl rfl rfl rfl ?_
  refine gl_op rfl rfl rfl (op_pure hT rfl) ?_
  refine gl_spell 22 (v := .bool true) rfl (by simp) ?_
  refine gl_op rfl rfl rfl (op_pure hT rfl) ?_
  refine gl_op rfl rfl rfl (op_pure hT rfl) ?_
  refine gl_un rfl rfl rfl rfl ?_
  refine gl_op rfl rfl rfl (op_fieldB 3 rfl Tryd.underlying29 rfl el27 rfl rfl) ?_
  refine gl_un rfl rfl rfl rfl ?_
  refine gl_op rfl rfl rfl (op_loadB 0 hT hS rfl rfl rfl rfl rfl rfl) ?_
  refine gl_un rfl rfl rfl rfl ?_
  refine gl_op rfl rfl rfl (op_fieldB 3 rfl Tryd.underlying29 rfl el27 rfl rfl) ?_
  refine gl_un rfl rfl rfl rfl ?_
  refine gl_op rfl rfl rfl (op_loadB 1 hT hS rfl rfl rfl rfl rfl rfl) ?_
  refine gl_un rfl rfl rfl rfl ?_
  refine gl_callf rfl rfl rfl rfl Tryd.func25 rfl rfl rfl (sameLists_calls _ _ _ _ _ _ SM SM' p.M _ (D.rM.old hS) D.nM (D'.rM.old hS) D'.nM hp.M (fun l h => (hp.fM l h).1)) ?_
  rintro _ w29 ⟨rfl, hb29⟩
  refine ⟨_, rfl, ?_⟩
  have hS := hS.grown hb29
  refine gl_op rfl rfl rfl (op_pure hT rfl) ?_
  refine gl_op rfl rfl rfl (op_pure hT rfl) ?_
  refine gl_un rfl rfl rfl rfl ?_
  refine gl_op rfl rfl rfl (op_fieldB 4 rfl Tryd.underlying29 rfl el3 rfl rfl) ?_
  refine gl_un rfl rfl rfl rfl ?_
  refine gl_op rfl rfl rfl (op_loadB 0 hT hS rfl rfl rfl rfl rfl rfl) ?_
  refine gl_un rfl rfl rfl rfl ?_
  refine gl_op rfl rfl rfl (op_fieldB 4 rfl Tryd.underlying29 rfl el3 rfl rfl) ?_
  refine gl_un rfl rfl rfl rfl ?_
  refine gl_op rfl rfl rfl (op_loadB 1 hT hS rfl rfl rfl rfl rfl rfl) ?_
  refine gl_un rfl rfl rfl rfl ?_
  refine gl_op rfl rfl rfl (op_pure hT rfl) ?_
  refine gl_spell 36 (v := .bool true) rfl (by simp) ?_
  refine gl_op rfl rfl rfl (op_pure hT rfl) ?_
  refine gl_op rfl rfl rfl (op_pure hT rfl) ?_
  refine gl_un rfl rfl rfl rfl ?_
  refine gl_op rfl rfl rfl (op_fieldB 5 rfl Tryd.underlying29 rfl el3 rfl rfl) ?_
  refine gl_un rfl rfl rfl rfl ?_
  refine gl_op rfl rfl rfl (op_loadB 0 hT hS rfl rfl rfl rfl rfl rfl) ?_
  refine gl_un rfl rfl rfl rfl ?_
  refine gl_op rfl rfl rfl (op_fieldB 5 rfl Tryd.underlying29 rfl el3 rfl rfl) ?_
  refine gl_un rfl rfl rfl rfl ?_
  refine gl_op rfl rfl rfl (op_loadB 1 hT hS rfl rfl rfl rfl rfl rfl) ?_
  refine gl_un rfl rfl rfl rfl ?_
  refine gl_op rfl rfl rfl (op_pure hT rfl) ?_
  refine gl_spell 43 (v := .bool true) rfl (by simp) ?_
  refine gl_op rfl rfl rfl (op_pure hT rfl) ?_
  refine gl_op rfl rfl rfl (op_pure hT rfl) ?_
  refine gl_un rfl rfl rfl rfl ?_
  refine gl_op rfl rfl rfl (op_fieldB 6 rfl Tryd.underlying29 rfl el3 rfl rfl) ?_
  refine gl_un rfl rfl rfl rfl ?_
  refine gl_op rfl rfl rfl (op_loadB 0 hT hS rfl rfl rfl rfl rfl rfl) ?_
  refine gl_un rfl rfl rfl rfl ?_
  refine gl_op rfl rfl rfl (op_fieldB 6 rfl Tryd.underlying29 rfl el3 rfl rfl) ?_
  refine gl_un rfl rfl rfl rfl ?_
  refine gl_op rfl rfl rfl (op_loadB 1 hT hS rfl rfl rfl rfl rfl rfl) ?_
  refine gl_un rfl rfl rfl rfl ?_
  refine gl_op rfl rfl rfl (op_pure hT rfl) ?_
  refine gl_spell 50 (v := .bool true) rfl (by simp) ?_
  refine gl_op rfl rfl rfl (op_pure hT rfl) ?_
  refine gl_op rfl rfl rfl (op_pure hT rfl) ?_
  refine gl_nil ?_
  refine hK2 _ _ ?_
  clear hK2; try clear K2
  refine gc_ret ?_
  try simp only [x_then_ret, x_block_ret]
  refine gk_ret1 rfl rfl ?_
  exact ⟨rfl, hS.below⟩
end Go.Proofs.YtnomlloaahoceaaDoor

