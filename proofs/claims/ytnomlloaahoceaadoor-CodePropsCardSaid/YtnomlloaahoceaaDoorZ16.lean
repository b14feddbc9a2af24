/- Contracts of functions that CodeProps reaches, and words to say them. No condition. -/
import Derived.Test.YtnomlloaahoceaaDoorZ14
import Derived.Test.YtnomlloaahoceaaDoorZ15
import Derived.Test.YtnomlloaahoceaaDoorZ13
/- Contracts: a question laid with marks, its bits, what stands; ModelProps. No condition. -/

namespace Go.Proofs.YtnomlloaahoceaaDoor
open Go.RowKit
set_option linter.unusedVariables false
set_option linter.unusedSimpArgs false
structure PrL (w : World) (ok : Nat → Prop) (C G M : Sv) (SG SM : List Sv) (mg mm : Sv) (p : Px) : Prop where
  rC : Rd w ok C.1 (p.C.length + 9) 1 (laidC p.C)
  nC : C.2.1 = p.C.length
  cC : p.C.length + 9 ≤ C.2.2
  rG : LdM w ok G.1 G.2.2 SG p.G mg
  nG : G.2.1 = p.G.length
  rM : LdM w ok M.1 M.2.2 SM p.M mm
  nM : M.2.1 = p.M.length
theorem PrL.keep {w w0 : World} {B : Nat} {L : List It} (hS : St B w0 w L) {i : Nat} {ok : Nat → Prop} {wk : World} (hi : L[i]? = some (.keep ok wk)) {C G M : Sv} {SG SM : List Sv} {mg mm : Sv} {p : Px} (h : PrL wk ok C G M SG SM mg mm p) : PrL w ok C G M SG SM mg mm p :=
  ⟨hS.keepRd hi h.rC, h.nC, h.cC, LdM.keep hS hi h.rG, h.nG, LdM.keep hS hi h.rM, h.nM⟩
theorem PrU.keep {w w0 : World} {B : Nat} {L : List It} (hS : St B w0 w L) {i : Nat} {ok : Nat → Prop} {wk : World} (hi : L[i]? = some (.keep ok wk)) {C G M : Sv} {SG SM : List Sv} {p : Px} (h : PrU wk ok C G M SG SM p) : PrU w ok C G M SG SM p :=
  ⟨hS.keepRd hi h.rC, h.nC, h.lC, h.fC, LsU.keep hS hi h.rG, h.nG, h.lG, LsU.keep hS hi h.rM, h.nM, h.lM, h.iT, h.iK, h.iD, h.iS⟩
theorem PrM.old {w w' : World} {ok : Nat → Prop} {C G M : Sv} {SG SM : List Sv} {p : Px} {L0 : List It} (h : PrM w ok C G M SG SM p) (hS : St w.heap.size w w' L0) : PrM w' ok C G M SG SM p :=
  ⟨h.rC.old hS, h.nC, h.lC, h.fC, h.rG.old hS, h.nG, h.lG, h.rM.old hS, h.nM, h.lM, h.iT, h.iK, h.iD, h.iS⟩
theorem PrU.old {w w' : World} {ok : Nat → Prop} {C G M : Sv} {SG SM : List Sv} {p : Px} {L0 : List It} (h : PrU w ok C G M SG SM p) (hS : St w.heap.size w w' L0) : PrU w' ok C G M SG SM p :=
  ⟨h.rC.old hS, h.nC, h.lC, h.fC, h.rG.old hS, h.nG, h.lG, h.rM.old hS, h.nM, h.lM, h.iT, h.iK, h.iD, h.iS⟩
theorem LdM.old {w w' : World} {ok : Nat → Prop} {A : Option Addr} {c : Nat} {S : List Sv} {ls : List (List Nat)} {mk : Sv} {L0 : List It} (h : LdM w ok A c S ls mk) (hS : St w.heap.size w w' L0) : LdM w' ok A c S ls mk :=
  ⟨h.rS.old (by decide) hS, h.cp, h.len, fun j x l h1 h2 => ⟨(h.rd j x l h1 h2).1.old (by decide) hS, (h.rd j x l h1 h2).2⟩, h.rm.old (by decide) hS, h.nm⟩
structure Px.small (p : Px) : Prop where
  C : p.C.length ≤ 17592186044416
  fC : ∀ u ∈ p.C, u < 18446744073709551616
  G : p.G.length ≤ 5864062014805
  fG : ∀ l ∈ p.G, l.length ≤ 17592186044416 ∧ ∀ u ∈ l, u < 18446744073709551616
  M : p.M.length ≤ 5864062014805
  fM : ∀ l ∈ p.M, l.length ≤ 17592186044416 ∧ ∀ u ∈ l, u < 18446744073709551616
  iT : i64 p.T
  iK : i64 p.K
  iD : i64 p.D
  iS : i64 p.S
theorem ofProp_calls (C G M : Sv) (SG SM : List Sv) (p : Px) (w : World) {ok : Nat → Prop} (D : PrM w ok C G M SG SM p) (hp : p.small) :
    Calls Tryd.prog 5 ⟨[.agg ⟨propC C G M p⟩]⟩ w fun e w' => ∃ C' G' M' SG' SM' K, e = .returned (.agg ⟨propC C' G' M' p⟩) ∧ St w.heap.size w w' [.keep K w'] ∧ PrU w' K C' G' M' SG' SM' p := by
  obtain ⟨C1, C2, C3⟩ := C
  obtain ⟨G1, G2, G3⟩ := G
  obtain ⟨M1, M2, M3⟩ := M
  refine gc_enter (N := 21) Tryd.func5 rfl rfl rfl [(0, _)] rfl ?_
  have hS := St.start w
  refine gc_seq fun K1 hK1 => ?_
  refine gc_region ?_
  refine gl_box hS rfl rfl rfl rfl rfl fun g1 w1 hS => ?_
  refine gl_alloc el29 hS rfl rfl rfl rfl fun g2 w2 hS => ?_
  refine gl_nil ?_
  refine hK1 _ _ ?_
  clear hK1; try clear K1
  refine gc_seq fun K2 hK2 => ?_
  refine gc_anyS (hS.blank 1) (by kernel_rfl) rfl fun nq1 hK => ?_
  have hS := hS.dr nq1
  refine ga_take 0 rfl rfl rfl rfl (by kernel_rfl) (fun _ _ _ _ h => h) hK (fun w1 hS => op_fieldB 0 rfl Tryd.underlying25 rfl el22 rfl rfl) ?_
  refine ga_take 1 rfl rfl rfl rfl (by kernel_rfl) (fun _ _ _ _ h => h) hK (fun w1 hS => op_loadB 0 hT hS rfl rfl rfl rfl rfl rfl) ?_
  refine ga_take 3 rfl rfl rfl rfl (by kernel_rfl) (fun _ _ _ _ h => h) hK (fun w1 hS => op_fieldB 1 rfl Tryd.underlying25 rfl el23 rfl rfl) ?_
  refine ga_take 4 rfl rfl rfl rfl (by kernel_rfl) (fun _ _ _ _ h => h) hK (fun w1 hS => op_loadB 0 hT hS rfl rfl rfl rfl rfl rfl) ?_
  refine ga_take 6 rfl rfl rfl rfl (by kernel_rfl) (fun _ _ _ _ h => h) hK (fun w1 hS => op_fieldB 2 rfl Tryd.underlying25 rfl el3 rfl rfl) ?_
  refine ga_take 7 rfl rfl rfl rfl (by kernel_rfl) (fun _ _ _ _ h => h) hK (fun w1 hS => op_loadB 0 hT hS rfl rfl rfl rfl rfl rfl) ?_
  refine ga_take 8 rfl rfl rfl rfl (by kernel_rfl) (fun _ _ _ _ h => h) hK (fun w1 hS => op_fieldB 3 rfl Tryd.underlying25 rfl el23 rfl rfl) ?_
  refine ga_take 9 rfl rfl rfl rfl (by kernel_rfl) (fun _ _ _ _ h => h) hK (fun w1 hS => op_loadB 0 hT hS rfl rfl rfl rfl rfl rfl) ?_
  refine ga_take 11 rfl rfl rfl rfl (by kernel_rfl) (fun _ _ _ _ h => h) hK (fun w1 hS => op_fieldB 4 rfl Tryd.underlying25 rfl el3 rfl rfl) ?_
  refine ga_take 12 rfl rfl rfl rfl (by kernel_rfl) (fun _ _ _ _ h => h) hK (fun w1 hS => op_loadB 0 hT hS rfl rfl rfl rfl rfl rfl) ?_
  refine ga_take 13 rfl rfl rfl rfl (by kernel_rfl) (fun _ _ _ _ h => h) hK (fun w1 hS => op_fieldB 5 rfl Tryd.underlying25 rfl el3 rfl rfl) ?_
  refine ga_take 14 rfl rfl rfl rfl (by kernel_rfl) (fun _ _ _ _ h => h) hK (fun w1 hS => op_loadB 0 hT hS rfl rfl rfl rfl rfl rfl) ?_
  refine ga_take 15 rfl rfl rfl rfl (by kernel_rfl) (fun _ _ _ _ h => h) hK (fun w1 hS => op_fieldB 6 rfl Tryd.underlying25 rfl el3 rfl rfl) ?_
  refine ga_take 16 rfl rfl rfl rfl (by kernel_rfl) (fun _ _ _ _ h => h) hK (fun w1 hS => op_loadB 0 hT hS rfl rfl rfl rfl rfl rfl) ?_
  refine ga_one 2 (by kernel_rfl) rfl ?_
  refine gl_callf rfl rfl rfl rfl Tryd.func14 rfl rfl rfl (bits_calls _ _ _ p.C _ (D.rC.old hS) D.nC hp.C) ?_
  rintro _ w5 ⟨A5, c5, rfl, h5⟩
  refine ⟨_, rfl, ?_⟩
  have hS := hS.more h5
  refine gl_nil ?_
  refine ga_next ((hS.blank 1).pre 2) fun hK => ?_
  refine ga_one 5 (by kernel_rfl) rfl ?_
  refine gl_callf rfl rfl rfl rfl Tryd.func15 rfl rfl rfl (bitsOf_calls _ _ _ SG p.G _ (D.rG.old hS) D.nG hp.G (fun l h => (hp.fG l h).1)) ?_
  rintro _ w8 ⟨A8, c8, S8, K8, rfl, h8, hU8⟩
  refine ⟨_, rfl, ?_⟩
  have hS := hS.more h8
  refine gl_nil ?_
  refine ga_next ((hS.blank 1).pre 2) fun hK => ?_
  refine ga_one 10 (by kernel_rfl) rfl ?_
  refine gl_callf rfl rfl rfl rfl Tryd.func15 rfl rfl rfl (bitsOf_calls _ _ _ SM p.M _ (D.rM.old hS) D.nM hp.M (fun l h => (hp.fM l h).1)) ?_
  rintro _ w13 ⟨A13, c13, S13, K13, rfl, h13, hU13⟩
  refine ⟨_, rfl, ?_⟩
  have hS := hS.more h13
  refine gl_nil ?_
  refine ga_next ((hS.blank 1).pre 2) fun hK => ?_
  refine ga_take 17 rfl rfl rfl rfl (by kernel_rfl) (fun _ _ _ _ h => h) hK (fun w1 hS => op_buildG rfl plan29 rfl rfl) ?_
  refine ga_one 18 (by kernel_rfl) rfl ?_
  refine gl_storeM 1 hS el29 rfl rfl rfl rfl rfl rfl rfl rfl rfl fun wways_go_91 hS => ?_
  refine gl_nil ?_
  refine ga_next ((hS.blank 1).pre 2) fun hK => ?_
  refine ga_done (by kernel_rfl) ?_
  refine hK2 _ _ ?_
  clear hK2; try clear K2
  refine gc_ret ?_
  try simp only [x_then_ret, x_block_ret]
  refine gk_res1 rfl (⟨_, rfl, run_loadVarB 1 Tryd.underlying29 rfl el29 hS rfl rfl rfl⟩) ?_
  have fin : ∀ (w' : World) (x y : It), LsU w' K8 A8 S8 p.G ∧ LsU w' K13 A13 S13 p.M → St w.heap.size w w' ([] ++ [x, y, It.row A5 c5 77 1 p.C.length (p.C.map uV), .keep K8 w8, .keep K13 w13]) → ∃ K, St w.heap.size w w' [.keep K w'] ∧ PrU w' K (A5, p.C.length, c5) (A8, p.G.length, c8) (A13, p.M.length, c13) S8 S13 p := by
    intro w' x y hU hS
    exact ⟨_, hS.keepRest, rdE_of (hS.rowRd (i := 2) rfl (keep_mem (.tail _ (.tail _ (.head _))))) rfl, rfl, by have := hp.C; omega, hp.fC, hU.1.weaken (keep_mem (x := .keep K8 w8) (.tail _ (.tail _ (.tail _ (.head _))))), rfl, by have := hp.G; omega,
      hU.2.weaken (keep_mem (x := .keep K13 w13) (.tail _ (.tail _ (.tail _ (.tail _ (.head _)))))), rfl, by have := hp.M; omega, hp.iT, hp.iK, hp.iD, hp.iS⟩
  refine ⟨(A5, p.C.length, c5), (A8, p.G.length, c8), (A13, p.M.length, c13), S8, S13, ?_⟩
  refine Exists.imp (fun K h => ⟨rfl, h⟩) (?_ : ∃ K, St w.heap.size w _ [.keep K _] ∧ PrU _ K (A5, p.C.length, c5) (A8, p.G.length, c8) (A13, p.M.length, c13) S8 S13 p)
  first
    | exact fin _ _ _ ⟨LsU.keep hS (i := 3) rfl hU8, LsU.keep hS (i := 4) rfl hU13⟩ hS
    | exact fin _ _ _ ⟨LsU.keep hS (i := 2) rfl hU8, LsU.keep hS (i := 4) rfl hU13⟩ (hS.permute (.cons _ (.cons _ (p_bac _ _ _))))
    | exact fin _ _ _ ⟨LsU.keep hS (i := 4) rfl hU8, LsU.keep hS (i := 3) rfl hU13⟩ (hS.permute (.cons _ (.cons _ (p_acb _ _ _))))
    | exact fin _ _ _ ⟨LsU.keep hS (i := 2) rfl hU8, LsU.keep hS (i := 3) rfl hU13⟩ (hS.permute (.cons _ (.cons _ (p_bca _ _ _))))
    | exact fin _ _ _ ⟨LsU.keep hS (i := 4) rfl hU8, LsU.keep hS (i := 2) rfl hU13⟩ (hS.permute (.cons _ (.cons _ (p_cab _ _ _))))
    | exact fin _ _ _ ⟨LsU.keep hS (i := 3) rfl hU8, LsU.keep hS (i := 2) rfl hU13⟩ (hS.permute (.cons _ (.cons _ (p_cba _ _ _))))
theorem sameProp_calls (C G M C' G' M' : Sv) (SG SM SG' SM' : List Sv) (p : Px) (w : World) {ok ok' : Nat → Prop} (D : PrU w ok C G M SG SM p) (D' : PrU w ok' C' G' M' SG' SM' p) (hp : p.small) :
    Calls Tryd.prog 11 ⟨[.agg ⟨propC C G M p⟩, .agg ⟨propC C' G' M' p⟩]⟩ w fun e w' => e = .returned (.bool true) ∧ Below w.heap.size w w' := by
  obtain ⟨C1, C2, C3⟩ := C
  obtain ⟨G1, G2, G3⟩ := G
  obtain ⟨M1, M2, M3⟩ := M
  obtain ⟨C1', C2', C3'⟩ := C'
  obtain ⟨G1', G2', G3'⟩ := G'
  obtain ⟨M1', M2', M3'⟩ := M'
  refine gc_enter (N := 52) Tryd.func11 rfl rfl rfl [(0, _), (1, _)] rfl ?_
  have hS := St.start w
  refine gc_seq fun K1 hK1 => ?_
  refine gc_region ?_
  refine gl_box hS rfl rfl rfl rfl rfl fun g2 w2 hS => ?_
  refine gl_box hS rfl rfl rfl rfl rfl fun g3 w3 hS => ?_
  refine gl_op rfl rfl rfl (op_pure hT rfl) ?_
  refine gl_nil ?_
  refine hK1 _ _ ?_
  clear hK1; try clear K1
  refine gc_seq fun K2 hK2 => ?_
  refine gc_region ?_
  refine gl_op rfl rfl rfl (op_fieldB 0 rfl Tryd.underlying29 rfl el26 rfl rfl) ?_
  refine gl_op rfl rfl rfl (op_loadB 0 hT hS rfl rfl rfl rfl rfl rfl) ?_
  refine gl_op rfl rfl rfl (op_fieldB 0 rfl Tryd.underlying29 rfl el26 rfl rfl) ?_
  refine gl_op rfl rfl rfl (op_loadB 1 hT hS rfl rfl rfl rfl rfl rfl) ?_
  refine gl_callf rfl rfl rfl rfl Tryd.func24 rfl rfl rfl (sameList_calls _ _ _ _ _ _ p.C _ (D.rC.old hS) D.nC (D'.rC.old hS) D'.nC hp.C) ?_
  rintro _ w9 ⟨rfl, hb9⟩
  refine ⟨_, rfl, ?_⟩
  have hS := hS.grown hb9
  refine gl_op rfl rfl rfl (op_pure hT rfl) ?_
  refine gl_un rfl rfl rfl rfl ?_
  refine gl_op rfl rfl rfl (op_fieldB 1 rfl Tryd.underlying29 rfl el27 rfl rfl) ?_
  refine gl_un rfl rfl rfl rfl ?_
  refine gl_op rfl rfl rfl (op_loadB 0 hT hS rfl rfl rfl rfl rfl rfl) ?_
  refine gl_un rfl rfl rfl rfl ?_
  refine gl_op rfl rfl rfl (op_fieldB 1 rfl Tryd.underlying29 rfl el27 rfl rfl) ?_
  refine gl_un rfl rfl rfl rfl ?_
  refine gl_op rfl rfl rfl (op_loadB 1 hT hS rfl rfl rfl rfl rfl rfl) ?_
  refine gl_un rfl rfl rfl rfl ?_
  refine gl_callf rfl rfl rfl rfl Tryd.func25 rfl rfl rfl (sameLists_calls _ _ _ _ _ _ SG SG' p.G _ (D.rG.old hS) D.nG (D'.rG.old hS) D'.nG hp.G (fun l h => (hp.fG l h).1)) ?_
  rintro _ w15 ⟨rfl, hb15⟩
  refine ⟨_, rfl, ?_⟩
  have hS := hS.grown hb15
  refine gl_op rfl rfl rfl (op_pure hT rfl) ?_
  refine gl_op rfl rfl rfl (op_pure hT rfl) ?_
  refine gl_un rfl rfl rfl rfl ?_
  refine gl_op rfl rfl rfl (op_fieldB 2 rfl Tryd.underlying29 rfl el3 rfl rfl) ?_
  refine gl_un rfl rfl rfl rfl ?_
  refine gl_op rfl rfl rfl (op_loadB 0 hT hS rfl rfl rfl rfl rfl rfl) ?_
  refine gl_un rfl rfl rfl rfl ?_
  refine gl_op rfl rfl rfl (op_fieldB 2 rfl Tryd.underlying29 rfl el3 rfl rfl) ?_
  refine gl_un rfl rfl rfl rfl ?_
  refine gl_op rfl rfl rfl (op_loadB 1 hT hS rfl rfl rfl rfl rfl rfl) ?_
  refine gl_un rfl rfl rfl rfl ?_
  refine gl_op rfl rfl rfl (op_pure hT rfl) ?_
  refine gl_spell 22 (v := .bool true) rfl (by simp) ?_
  refine gl_op rfl rfl rfl (op_pure hT rfl) ?_
  refine gl_op rfl rfl rfl (op_pure hT rfl) ?_
  refine gl_un rfl rfl rfl rfl ?_
  refine gl_op rfl rfl rfl (op_fieldB 3 rfl Tryd.underlying29 rfl el27 rfl rfl) ?_
  refine gl_un rfl rfl rfl rfl ?_
  refine gl_op rfl rfl rfl (op_loadB 0 hT hS rfl rfl rfl rfl rfl rfl) ?_
  refine gl_un rfl rfl rfl rfl ?_
  refine gl_op rfl rfl rfl (op_fieldB 3 rfl Tryd.underlying29 rfl el27 rfl rfl) ?_
  refine gl_un rfl rfl rfl rfl ?_
  refine gl_op rfl rfl rfl (op_loadB 1 hT hS rfl rfl rfl rfl rfl rfl) ?_
  refine gl_un rfl rfl rfl rfl ?_
  refine gl_callf rfl rfl rfl rfl Tryd.func25 rfl rfl rfl (sameLists_calls _ _ _ _ _ _ SM SM' p.M _ (D.rM.old hS) D.nM (D'.rM.old hS) D'.nM hp.M (fun l h => (hp.fM l h).1)) ?_
  rintro _ w29 ⟨rfl, hb29⟩
  refine ⟨_, rfl, ?_⟩
  have hS := hS.grown hb29
  refine gl_op rfl rfl rfl (op_pure hT rfl) ?_
  refine gl_op rfl rfl rfl (op_pure hT rfl) ?_
  refine gl_un rfl rfl rfl rfl ?_
  refine gl_op rfl rfl rfl (op_fieldB 4 rfl Tryd.underlying29 rfl el3 rfl rfl) ?_
  refine gl_un rfl rfl rfl rfl ?_
  refine gl_op rfl rfl rfl (op_loadB 0 hT hS rfl rfl rfl rfl rfl rfl) ?_
  refine gl_un rfl rfl rfl rfl ?_
  refine gl_op rfl rfl rfl (op_fieldB 4 rfl Tryd.underlying29 rfl el3 rfl rfl) ?_
  refine gl_un rfl rfl rfl rfl ?_
  refine gl_op rfl rfl rfl (op_loadB 1 hT hS rfl rfl rfl rfl rfl rfl) ?_
  refine gl_un rfl rfl rfl rfl ?_
  refine gl_op rfl rfl rfl (op_pure hT rfl) ?_
  refine gl_spell 36 (v := .bool true) rfl (by simp) ?_
  refine gl_op rfl rfl rfl (op_pure hT rfl) ?_
  refine gl_op rfl rfl rfl (op_pure hT rfl) ?_
  refine gl_un rfl rfl rfl rfl ?_
  refine gl_op rfl rfl rfl (op_fieldB 5 rfl Tryd.underlying29 rfl el3 rfl rfl) ?_
  refine gl_un rfl rfl rfl rfl ?_
  refine gl_op rfl rfl rfl (op_loadB 0 hT hS rfl rfl rfl rfl rfl rfl) ?_
  refine gl_un rfl rfl rfl rfl ?_
  refine gl_op rfl rfl rfl (op_fieldB 5 rfl Tryd.underlying29 rfl el3 rfl rfl) ?_
  refine gl_un rfl rfl rfl rfl ?_
  refine gl_op rfl rfl rfl (op_loadB 1 hT hS rfl rfl rfl rfl rfl rfl) ?_
  refine gl_un rfl rfl rfl rfl ?_
  refine gl_op rfl rfl rfl (op_pure hT rfl) ?_
  refine gl_spell 43 (v := .bool true) rfl (by simp) ?_
  refine gl_op rfl rfl rfl (op_pure hT rfl) ?_
  refine gl_op rfl rfl rfl (op_pure hT rfl) ?_
  refine gl_un rfl rfl rfl rfl ?_
  refine gl_op rfl rfl rfl (op_fieldB 6 rfl Tryd.underlying29 rfl el3 rfl rfl) ?_
  refine gl_un rfl rfl rfl rfl ?_
  refine gl_op rfl rfl rfl (op_loadB 0 hT hS rfl rfl rfl rfl rfl rfl) ?_
  refine gl_un rfl rfl rfl rfl ?_
  refine gl_op rfl rfl rfl (op_fieldB 6 rfl Tryd.underlying29 rfl el3 rfl rfl) ?_
  refine gl_un rfl rfl rfl rfl ?_
  refine gl_op rfl rfl rfl (op_loadB 1 hT hS rfl rfl rfl rfl rfl rfl) ?_
  refine gl_un rfl rfl rfl rfl ?_
  refine gl_op rfl rfl rfl (op_pure hT rfl) ?_
  refine gl_spell 50 (v := .bool true) rfl (by simp) ?_
  refine gl_op rfl rfl rfl (op_pure hT rfl) ?_
  refine gl_op rfl rfl rfl (op_pure hT rfl) ?_
  refine gl_nil ?_
  refine hK2 _ _ ?_
  clear hK2; try clear K2
  refine gc_ret ?_
  try simp only [x_then_ret, x_block_ret]
  refine gk_ret1 rfl rfl ?_
  exact ⟨rfl, hS.below⟩
end Go.Proofs.YtnomlloaahoceaaDoor


/- Contracts of package code: the form of a question. No condition. -/
namespace Go.Proofs.YtnomlloaahoceaaDoor
open Go.RowKit
set_option linter.unusedVariables false
set_option linter.unusedSimpArgs false
def leastV (p : Px) : Int := if 0 < p.M.length then ((p.M.getD 0 []).length : Int) - 1 else max 2 (min p.T 256 + 1)
def formV (p : Px) : Int × Int := if p.C.length = 0 ∨ 256 < p.C.length then (65, 0) else propV p p.C.length (leastV p)
theorem leastV_i64 {p : Px} {w : World} {ok : Nat → Prop} {C G M : Sv} {SG SM : List Sv} (D : PrM w ok C G M SG SM p) : i64 (leastV p) := by
  have h1 := D.iT
  unfold leastV
  split
  · rename_i h0
    have hx : p.M[0]? = some (p.M.getD 0 []) := by rw [List.getD_eq_getElem?_getD, List.getElem?_eq_getElem h0]; rfl
    have hl := D.rM.len
    obtain ⟨x, hx2⟩ : ∃ x, SM[0]? = some x := ⟨_, List.getElem?_eq_getElem (by omega)⟩
    have := (D.rM.rd 0 x _ hx2 hx).2.2.1
    unfold i64
    omega
  · unfold i64 at h1 ⊢
    omega
set_option maxRecDepth 100000 in
theorem checkForm_calls (C G M : Sv) (SG SM : List Sv) (p : Px) (w : World) {ok : Nat → Prop} (D : PrM w ok C G M SG SM p) :
    Calls Tryd.prog 8 ⟨[.agg ⟨propC C G M p⟩]⟩ w fun e w' => e = .returned (.tuple #[.int .i64 (formV p).1, .int .i64 (formV p).2]) ∧ Below w.heap.size w w' := by
  have hi := leastV_i64 D
  have hiT := D.iT
  have hl := D.rM.len
  have hnC := D.nC
  have hlC := D.lC
  have hnM := D.nM
  obtain ⟨R, hR⟩ : ∃ R, R = formV p := ⟨_, rfl⟩
  rw [← hR]
  unfold formV at hR
  obtain ⟨C1, C2, C3⟩ := C
  obtain ⟨M1, M2, M3⟩ := M
  simp only at hnC hnM
  subst hnC
  subst hnM
  refine gc_enter (N := 38) Tryd.func8 rfl rfl rfl [(0, _)] rfl ?_
  have hS := St.start w
  refine gc_seq fun K1 hK1 => ?_
  refine gc_region ?_
  refine gl_box hS rfl rfl rfl rfl rfl fun g1 w1 hS => ?_
  refine gl_op rfl rfl rfl (op_pure hT rfl) ?_
  refine gl_op rfl rfl rfl (op_pure hT rfl) ?_
  refine gl_nil ?_
  refine hK1 _ _ ?_
  clear hK1; try clear K1
  refine gc_seq fun K2 hK2 => ?_
  refine gc_seq fun K3 hK3 => ?_
  refine gc_region ?_
  refine gl_op rfl rfl rfl (op_fieldB 0 rfl Tryd.underlying25 rfl el22 rfl rfl) ?_
  refine gl_op rfl rfl rfl (op_loadB 0 hT hS rfl rfl rfl rfl rfl rfl) ?_
  refine gl_op rfl rfl rfl (op_pure hT rfl) ?_
  refine gl_op rfl rfl rfl (op_pure hT rfl) ?_
  refine gl_op rfl rfl rfl (op_pure hT rfl) ?_
  refine gl_split (t := 9) rfl (fun c9 => ?_) (fun c9 => ?_)
  · try simp only [decide_eq_true_eq, decide_eq_false_iff_not, Bool.not_eq_true', Bool.not_eq_false', Int.not_lt, Int.not_le, Nat.not_lt, Nat.not_le, Bool.true_eq, Bool.false_eq, reduceCtorEq] at c9
    refine gl_pass rfl rfl rfl rfl rfl rfl ?_
    refine gl_pass rfl rfl rfl rfl rfl rfl ?_
    refine gl_pass rfl rfl rfl rfl rfl rfl ?_
    refine gl_pass rfl rfl rfl rfl rfl rfl ?_
    refine gl_op rfl rfl rfl (op_pure hT rfl) ?_
    refine gl_nil ?_
    refine hK3 _ _ ?_
    clear hK3; try clear K3
    refine gc_cond_t rfl ?_
    refine gc_seq fun K4 hK4 => ?_
    refine gc_region ?_
    refine gl_op rfl rfl rfl (op_pure hT rfl) ?_
    refine gl_op rfl rfl rfl (op_pure hT rfl) ?_
    refine gl_nil ?_
    refine hK4 _ _ ?_
    clear hK4; try clear K4
    refine gc_ret ?_
    try simp only [x_then_ret, x_block_ret]
    refine gk_ret2 rfl rfl rfl ?_
    rw [if_pos (by omega)] at hR
    rw [hR]
    exact ⟨rfl, hS.below⟩
  · try simp only [decide_eq_true_eq, decide_eq_false_iff_not, Bool.not_eq_true', Bool.not_eq_false', Int.not_lt, Int.not_le, Nat.not_lt, Nat.not_le, Bool.true_eq, Bool.false_eq, reduceCtorEq] at c9
    refine gl_un rfl rfl rfl rfl ?_
    refine gl_op rfl rfl rfl (op_fieldB 0 rfl Tryd.underlying25 rfl el22 rfl rfl) ?_
    refine gl_un rfl rfl rfl rfl ?_
    refine gl_op rfl rfl rfl (op_loadB 0 hT hS rfl rfl rfl rfl rfl rfl) ?_
    refine gl_un rfl rfl rfl rfl ?_
    refine gl_op rfl rfl rfl (op_pure hT rfl) ?_
    refine gl_un rfl rfl rfl rfl ?_
    refine gl_op rfl rfl rfl (op_pure hT rfl) ?_
    refine gl_op rfl rfl rfl (op_pure hT rfl) ?_
    refine gl_nil ?_
    refine hK3 _ _ ?_
    clear hK3; try clear K3
    refine gc_cond rfl rfl (fun c14 => ?_) (fun c14 => ?_)
    · try simp only [decide_eq_true_eq, decide_eq_false_iff_not, Bool.not_eq_true', Bool.not_eq_false', Int.not_lt, Int.not_le, Nat.not_lt, Nat.not_le, Bool.true_eq, Bool.false_eq, reduceCtorEq] at c14
      refine gc_seq fun K5 hK5 => ?_
      refine gc_region ?_
      refine gl_op rfl rfl rfl (op_pure hT rfl) ?_
      refine gl_op rfl rfl rfl (op_pure hT rfl) ?_
      refine gl_nil ?_
      refine hK5 _ _ ?_
      clear hK5; try clear K5
      refine gc_ret ?_
      try simp only [x_then_ret, x_block_ret]
      refine gk_ret2 rfl rfl rfl ?_
      rw [if_pos (by omega)] at hR
      rw [hR]
      exact ⟨rfl, hS.below⟩
    · try simp only [decide_eq_true_eq, decide_eq_false_iff_not, Bool.not_eq_true', Bool.not_eq_false', Int.not_lt, Int.not_le, Nat.not_lt, Nat.not_le, Bool.true_eq, Bool.false_eq, reduceCtorEq] at c14
      refine gc_skip ?_
      refine hK2 _ _ ?_
      clear hK2; try clear K2
      refine gc_seq fun K6 hK6 => ?_
      refine gc_region ?_
      refine gl_op rfl rfl rfl (op_fieldB 2 rfl Tryd.underlying25 rfl el3 rfl rfl) ?_
      refine gl_op rfl rfl rfl (op_loadB 0 hT hS rfl rfl rfl rfl rfl rfl) ?_
      refine gl_op rfl rfl rfl (op_min2 rfl rfl rfl) ?_
      first | refine gl_fit hT rfl rfl rfl rfl (by omega) ?_ | refine gl_op rfl rfl rfl (op_pure hT rfl) ?_
      refine gl_op rfl rfl rfl (op_max2 rfl rfl rfl) ?_
      refine gl_op rfl rfl rfl (op_pure hT rfl) ?_
      refine gl_nil ?_
      refine hK6 _ _ ?_
      clear hK6; try clear K6
      refine gc_seq fun K7 hK7 => ?_
      refine gc_seq fun K8 hK8 => ?_
      refine gc_region ?_
      refine gl_op rfl rfl rfl (op_fieldB 3 rfl Tryd.underlying25 rfl el23 rfl rfl) ?_
      refine gl_op rfl rfl rfl (op_loadB 0 hT hS rfl rfl rfl rfl rfl rfl) ?_
      refine gl_op rfl rfl rfl (op_pure hT rfl) ?_
      refine gl_op rfl rfl rfl (op_pure hT rfl) ?_
      refine gl_nil ?_
      refine hK8 _ _ ?_
      clear hK8; try clear K8
      refine gc_cond rfl rfl (fun c23 => ?_) (fun c23 => ?_)
      · try simp only [decide_eq_true_eq, decide_eq_false_iff_not, Bool.not_eq_true', Bool.not_eq_false', Int.not_lt, Int.not_le, Nat.not_lt, Nat.not_le, Bool.true_eq, Bool.false_eq, reduceCtorEq] at c23
        refine gc_region ?_
        refine gl_op rfl rfl rfl (op_fieldB 3 rfl Tryd.underlying25 rfl el23 rfl rfl) ?_
        refine gl_op rfl rfl rfl (op_loadB 0 hT hS rfl rfl rfl rfl rfl rfl) ?_
        have hM0 : p.M[0]? = some (p.M.getD 0 []) := by rw [List.getD_eq_getElem?_getD, List.getElem?_eq_getElem (by omega)]; rfl
        obtain ⟨x, hx2⟩ : ∃ x, SM[0]? = some x := ⟨_, List.getElem?_eq_getElem (by omega)⟩
        have hx3 := D.rM.rd 0 x _ hx2 hM0
        obtain ⟨ad, hA, hc⟩ := (D.rM.rS.old hS).at (none, 0, 0) (i := (0 : Int)) (by omega) (by omega)
        have hug : SM.getD ((0 : Int)).toNat (none, 0, 0) = x := by show SM.getD 0 _ = x; rw [List.getD_eq_getElem?_getD, hx2]; rfl
        rw [hug] at hc
        refine gl_op rfl rfl rfl (op_indexAddr hT rfl rfl el22.cellsOf.1 el22.cellsOf.2 rfl rfl (by omega) (by omega) hA) ?_
        refine gl_op rfl rfl rfl (op_load hT rfl rfl rfl rfl hc) ?_
        refine gl_op rfl rfl rfl (op_pure hT rfl) ?_
        first | refine gl_fit hT rfl rfl rfl rfl (by omega) ?_ | refine gl_op rfl rfl rfl (op_pure hT rfl) ?_
        refine gl_op rfl rfl rfl (op_pure hT rfl) ?_
        refine gl_nil ?_
        refine hK7 _ _ ?_
        clear hK7; try clear K7
        refine gc_seq fun K9 hK9 => ?_
        refine gc_region ?_
        refine gl_op rfl rfl rfl (op_loadG 0 Tryd.underlying25 rfl el25 hS rfl rfl rfl rfl rfl) ?_
        refine gl_op rfl rfl rfl (op_fieldB 0 rfl Tryd.underlying25 rfl el22 rfl rfl) ?_
        refine gl_op rfl rfl rfl (op_loadB 0 hT hS rfl rfl rfl rfl rfl rfl) ?_
        refine gl_op rfl rfl rfl (op_pure hT rfl) ?_
        refine gl_op rfl rfl rfl (op_pure hT rfl) ?_
        refine gl_spell 34 (v := .int .i64 (leastV p)) rfl (congrArg (Value.int .i64) (by unfold leastV; split <;> omega)) ?_
        rw [if_neg (by omega)] at hR
        refine gl_callf rfl rfl rfl rfl Tryd.func23 rfl rfl rfl (checkProp_calls _ G _ SG SM p _ (leastV p) _ (D.old hS)) ?_
        rintro _ w35 ⟨rfl, hb35⟩
        refine ⟨_, rfl, ?_⟩
        have hS := hS.grown hb35
        rw [← hR]
        refine gl_op rfl rfl rfl (op_pure hT rfl) ?_
        refine gl_op rfl rfl rfl (op_pure hT rfl) ?_
        refine gl_op rfl rfl rfl (op_pure hT rfl) ?_
        refine gl_op rfl rfl rfl (op_pure hT rfl) ?_
        refine gl_nil ?_
        refine hK9 _ _ ?_
        clear hK9; try clear K9
        refine gc_ret ?_
        try simp only [x_then_ret, x_block_ret]
        refine gk_ret2 rfl rfl rfl ?_
        exact ⟨rfl, hS.below⟩
      · try simp only [decide_eq_true_eq, decide_eq_false_iff_not, Bool.not_eq_true', Bool.not_eq_false', Int.not_lt, Int.not_le, Nat.not_lt, Nat.not_le, Bool.true_eq, Bool.false_eq, reduceCtorEq] at c23
        refine gc_skip ?_
        refine hK7 _ _ ?_
        clear hK7; try clear K7
        refine gc_seq fun K10 hK10 => ?_
        refine gc_region ?_
        refine gl_op rfl rfl rfl (op_loadG 0 Tryd.underlying25 rfl el25 hS rfl rfl rfl rfl rfl) ?_
        refine gl_op rfl rfl rfl (op_fieldB 0 rfl Tryd.underlying25 rfl el22 rfl rfl) ?_
        refine gl_op rfl rfl rfl (op_loadB 0 hT hS rfl rfl rfl rfl rfl rfl) ?_
        refine gl_op rfl rfl rfl (op_pure hT rfl) ?_
        refine gl_op rfl rfl rfl (op_pure hT rfl) ?_
        refine gl_spell 34 (v := .int .i64 (leastV p)) rfl (congrArg (Value.int .i64) (by unfold leastV; split <;> omega)) ?_
        rw [if_neg (by omega)] at hR
        refine gl_callf rfl rfl rfl rfl Tryd.func23 rfl rfl rfl (checkProp_calls _ G _ SG SM p _ (leastV p) _ (D.old hS)) ?_
        rintro _ w35 ⟨rfl, hb35⟩
        refine ⟨_, rfl, ?_⟩
        have hS := hS.grown hb35
        rw [← hR]
        refine gl_op rfl rfl rfl (op_pure hT rfl) ?_
        refine gl_op rfl rfl rfl (op_pure hT rfl) ?_
        refine gl_op rfl rfl rfl (op_pure hT rfl) ?_
        refine gl_op rfl rfl rfl (op_pure hT rfl) ?_
        refine gl_nil ?_
        refine hK10 _ _ ?_
        clear hK10; try clear K10
        refine gc_ret ?_
        try simp only [x_then_ret, x_block_ret]
        refine gk_ret2 rfl rfl rfl ?_
        exact ⟨rfl, hS.below⟩
end Go.Proofs.YtnomlloaahoceaaDoor


/- Contracts of package code: a question read from bytes. No condition. -/
namespace Go.Proofs.YtnomlloaahoceaaDoor
open Go.RowKit
set_option linter.unusedVariables false
set_option linter.unusedSimpArgs false
/-! ### what is told -/
def dpTail (l : List UInt8) (p : Px) (tgt at_ : Int) : Ex Px :=
  if (formV p).1 ≠ 0 then .error ((formV p).1, tgt) else match tlV l at_ with | some x => .error x | none => .ok p
def dpNums (l : List UInt8) (p : Px) (tgt at_ : Int) : Ex Px :=
  match rU l at_ with | .error x => .error x | .ok (k, a) => match rU l a with | .error x => .error x | .ok (d, b) => match rU l b with | .error x => .error x | .ok (s, c) => dpTail l ⟨p.C, p.G, p.T, p.M, k, d, s⟩ tgt c
def dpClaims (l : List UInt8) (p : Px) (tgt : Int) : Nat → List (List Nat) → Int → Ex Px
  | 0, M, at_ => dpNums l ⟨p.C, p.G, p.T, M, p.K, p.D, p.S⟩ tgt at_
  | k + 1, M, at_ => match rU l at_ with
    | .error x => .error x
    | .ok (m, a) => if m < 2 ∨ 257 < m ∨ (0 < M.length ∧ m ≠ (M.getD 0 []).length) then .error (63, at_) else match rFs l m.toNat a with | .error x => .error x | .ok (us, b) => dpClaims l p tgt k (M ++ [us]) b
def dpM (l : List UInt8) (p : Px) (tgt at_ : Int) : Ex Px :=
  match rU l at_ with | .error x => .error x | .ok (c, a) => if 64 < c then .error (65, at_) else dpClaims l p tgt c.toNat [] a
def dpT (l : List UInt8) (p : Px) (at_ : Int) : Ex Px :=
  match rU l at_ with | .error x => .error x | .ok (t, a) => dpM l ⟨p.C, p.G, t - 1, p.M, p.K, p.D, p.S⟩ at_ a
def dpRows (l : List UInt8) (p : Px) : Nat → List (List Nat) → Int → Ex Px
  | 0, G, at_ => dpT l ⟨p.C, G, p.T, p.M, p.K, p.D, p.S⟩ at_
  | k + 1, G, at_ => match rFs l p.C.length at_ with | .error x => .error x | .ok (us, b) => dpRows l p k (G ++ [us]) b
def dpG (l : List UInt8) (p : Px) (at_ : Int) : Ex Px :=
  match rU l at_ with | .error x => .error x | .ok (k, a) => if 256 < k then .error (65, at_) else dpRows l p k.toNat [] a
def dpN (l : List UInt8) : Ex Px :=
  match rU l 5 with
    | .error x => .error x
    | .ok (n, a) => if n = 0 ∨ 256 < n then .error (65, 5) else match rFs l n.toNat a with | .error x => .error x | .ok (C, b) => dpG l ⟨C, [], 0, [], 0, 0, 0⟩ b
def decPropV (l : List UInt8) : Ex Px :=
  match hdV [65, 77, 66, 80] l with
  | some x => .error x
  | none => dpN l
section
variable {l : List UInt8} {p : Px} {x : Int × Int} {tgt at_ a b v : Int} {n k : Nat} {us : List Nat} {M G : List (List Nat)}
theorem decPropV_h (h : hdV [65, 77, 66, 80] l = some x) : decPropV l = .error x := by unfold decPropV; rw [h]
theorem decPropV_0 (h : hdV [65, 77, 66, 80] l = none) : decPropV l = dpN l := by unfold decPropV; rw [h]
theorem dpN_e (h : rU l 5 = .error x) : dpN l = .error x := by unfold dpN; rw [h]
theorem dpN_b (h : rU l 5 = .ok (v, a)) (hb : v = 0 ∨ 256 < v) : dpN l = .error (65, 5) := by unfold dpN; rw [h]; exact if_pos hb
theorem dpN_f (h : rU l 5 = .ok ((n : Int), a)) (hb : ¬ ((n : Int) = 0 ∨ 256 < (n : Int))) (h2 : rFs l n a = .error x) : dpN l = .error x := by unfold dpN; rw [h]; refine (if_neg hb).trans ?_; rw [Int.toNat_natCast, h2]
theorem dpN_0 (h : rU l 5 = .ok ((n : Int), a)) (hb : ¬ ((n : Int) = 0 ∨ 256 < (n : Int))) (h2 : rFs l n a = .ok (us, b)) : dpN l = dpG l ⟨us, [], 0, [], 0, 0, 0⟩ b := by unfold dpN; rw [h]; refine (if_neg hb).trans ?_; rw [Int.toNat_natCast, h2]
theorem dpGx_e (h : rU l at_ = .error x) : dpG l p at_ = .error x := by unfold dpG; rw [h]
theorem dpGx_b (h : rU l at_ = .ok (v, a)) (hb : 256 < v) : dpG l p at_ = .error (65, at_) := by unfold dpG; rw [h]; exact if_pos hb
theorem dpGx_0 (h : rU l at_ = .ok ((k : Int), a)) (hb : ¬ 256 < (k : Int)) : dpG l p at_ = dpRows l p k [] a := by unfold dpG; rw [h]; refine (if_neg hb).trans ?_; rw [Int.toNat_natCast]
theorem dpRows_e (hn : n = k + 1) (h : rFs l p.C.length at_ = .error x) : dpRows l p n G at_ = .error x := by subst hn; unfold dpRows; rw [h]
theorem dpRows_s (hn : n = k + 1) (h : rFs l p.C.length at_ = .ok (us, b)) : dpRows l p n G at_ = dpRows l p k (G ++ [us]) b := by
  subst hn
  show (match rFs l p.C.length at_ with | .error x => Except.error x | .ok (us, b) => dpRows l p k (G ++ [us]) b) = _
  rw [h]
theorem dpT_e (h : rU l at_ = .error x) : dpT l p at_ = .error x := by unfold dpT; rw [h]
theorem dpT_0 (h : rU l at_ = .ok (v, a)) : dpT l p at_ = dpM l ⟨p.C, p.G, v - 1, p.M, p.K, p.D, p.S⟩ at_ a := by unfold dpT; rw [h]
theorem dpM_e (h : rU l at_ = .error x) : dpM l p tgt at_ = .error x := by unfold dpM; rw [h]
theorem dpM_b (h : rU l at_ = .ok (v, a)) (hb : 64 < v) : dpM l p tgt at_ = .error (65, at_) := by unfold dpM; rw [h]; exact if_pos hb
theorem dpM_0 (h : rU l at_ = .ok ((k : Int), a)) (hb : ¬ 64 < (k : Int)) : dpM l p tgt at_ = dpClaims l p tgt k [] a := by unfold dpM; rw [h]; refine (if_neg hb).trans ?_; rw [Int.toNat_natCast]
theorem dpClaims_e (hn : n = k + 1) (h : rU l at_ = .error x) : dpClaims l p tgt n M at_ = .error x := by subst hn; unfold dpClaims; rw [h]
theorem dpClaims_b (hn : n = k + 1) (h : rU l at_ = .ok (v, a)) (hb : v < 2 ∨ 257 < v ∨ (0 < M.length ∧ v ≠ (M.getD 0 []).length)) : dpClaims l p tgt n M at_ = .error (63, at_) := by
  subst hn; unfold dpClaims; rw [h]; exact if_pos hb
theorem dpClaims_f {m : Nat} (hn : n = k + 1) (h : rU l at_ = .ok ((m : Int), a)) (hb : ¬ ((m : Int) < 2 ∨ 257 < (m : Int) ∨ (0 < M.length ∧ (m : Int) ≠ (M.getD 0 []).length))) (h2 : rFs l m a = .error x) : dpClaims l p tgt n M at_ = .error x := by
  subst hn; unfold dpClaims; rw [h]; refine (if_neg hb).trans ?_; rw [Int.toNat_natCast, h2]
theorem dpClaims_s {m : Nat} (hn : n = k + 1) (h : rU l at_ = .ok ((m : Int), a)) (hb : ¬ ((m : Int) < 2 ∨ 257 < (m : Int) ∨ (0 < M.length ∧ (m : Int) ≠ (M.getD 0 []).length))) (h2 : rFs l m a = .ok (us, b)) : dpClaims l p tgt n M at_ = dpClaims l p tgt k (M ++ [us]) b := by
  subst hn
  show (match rU l at_ with
    | .error x => Except.error x
    | .ok (m, a) => if m < 2 ∨ 257 < m ∨ (0 < M.length ∧ m ≠ (M.getD 0 []).length) then .error (63, at_) else match rFs l m.toNat a with | .error x => .error x | .ok (us, b) => dpClaims l p tgt k (M ++ [us]) b) = _
  rw [h]; refine (if_neg hb).trans ?_; rw [Int.toNat_natCast, h2]
theorem dpNums_1 (h : rU l at_ = .error x) : dpNums l p tgt at_ = .error x := by unfold dpNums; rw [h]
theorem dpNums_2 {k : Int} (h : rU l at_ = .ok (k, a)) (h2 : rU l a = .error x) : dpNums l p tgt at_ = .error x := by simp only [dpNums, h, h2]
theorem dpNums_3 {k d : Int} (h : rU l at_ = .ok (k, a)) (h2 : rU l a = .ok (d, b)) (h3 : rU l b = .error x) : dpNums l p tgt at_ = .error x := by simp only [dpNums, h, h2, h3]
theorem dpNums_0 {k d s c : Int} (h : rU l at_ = .ok (k, a)) (h2 : rU l a = .ok (d, b)) (h3 : rU l b = .ok (s, c)) : dpNums l p tgt at_ = dpTail l ⟨p.C, p.G, p.T, p.M, k, d, s⟩ tgt c := by simp only [dpNums, h, h2, h3]
theorem dpTail_b (h : (formV p).1 ≠ 0) : dpTail l p tgt at_ = .error ((formV p).1, tgt) := by unfold dpTail; exact if_pos h
theorem dpTail_t (h : ¬ (formV p).1 ≠ 0) (h2 : tlV l at_ = some x) : dpTail l p tgt at_ = .error x := by unfold dpTail; refine (if_neg h).trans ?_; rw [h2]
theorem dpTail_0 (h : ¬ (formV p).1 ≠ 0) (h2 : tlV l at_ = none) : dpTail l p tgt at_ = .ok p := by unfold dpTail; refine (if_neg h).trans ?_; rw [h2]
end
/-! ### what is put off -/
@[reducible] def dpD (g3 g4 : Nat) : List Deferred := [{ target := .fn (.func 58) #[.pointer (some ⟨g3, 0, none⟩), .pointer (some ⟨g4, 0, none⟩)], args := #[] }]
@[reducible] def zP : List Value := [.slice none 0 0, .slice none 0 0, .int .i64 0, .slice none 0 0, .int .i64 0, .int .i64 0, .int .i64 0]
@[reducible] def dpE (g2 g3 g4 : Nat) : Env := [(2, .pointer (some ⟨g2, 0, none⟩)), (3, .pointer (some ⟨g3, 0, none⟩)), (4, .pointer (some ⟨g4, 0, none⟩))]
@[reducible] def dpL (g2 g3 g4 : Nat) (zp : List Value) (x y : Int) : List It := [.blk g2 25 zp, .blk g3 34 [.int .i64 x], .blk g4 3 [.int .i64 y]]
def DpQ (R : Ending → World → Prop) (B : Nat) (w0 : World) (er : Int × Int → Prop) : Exit → Act → World → Prop
  | .panic ch, a, w => ∃ g2 g3 g4 x y it L, er (x, y) ∧ ch = pn x y ∧ Fr ⟨Tryd.f28.ntmps, dpD g3 g4⟩ a (dpE g2 g3 g4) ∧ St B w0 w (it :: dpL g2 g3 g4 zP 0 0 ++ L)
  | ex, a, w => bodyPostD Tryd.prog Tryd.f28 R ex a w
theorem Fr.unput {N : Nt} {a : Act} {e : Env} {d : Nat} {v : Value} (h : Fr N (a.put (some d) v) e) (hd : look e d = none) : Fr N a e := by
  refine ⟨h.defers, by have := h.size; simpa [Act.put] using this, fun t u hu => ?_⟩
  have h1 := h.get t u hu
  have hne : ¬ d = t := by rintro rfl; rw [hd] at hu; cases hu
  simpa [Act.put, Array.getElem?_setIfInBounds, hne] using h1
theorem dpPan {R : Ending → World → Prop} {B : Nat} {w0 : World} {er : Int × Int → Prop} {d : Nat} (hd : ∀ g2 g3 g4, look (dpE g2 g3 g4) d = none) : PanOk (DpQ R B w0 er) d := by
  rintro c a w v ⟨g2, g3, g4, x, y, it, L, h1, h2, h3, h4⟩
  exact ⟨g2, g3, g4, x, y, it, L, h1, h2, h3.unput (hd g2 g3 g4), h4⟩
theorem gk_dp {R : Ending → World → Prop} {B : Nat} {w0 w : World} {er : Int × Int → Prop} {e : Env} {g2 g3 g4 : Nat} {x y : Int} {it : It} {L : List It} (he : subEnv e (dpE g2 g3 g4)) (h1 : er (x, y)) (hS : St B w0 w (it :: dpL g2 g3 g4 zP 0 0 ++ L)) :
    GK ⟨Tryd.f28.ntmps, dpD g3 g4⟩ e (DpQ R B w0 er (.panic (pn x y))) w := fun a ha => ⟨g2, g3, g4, x, y, it, L, h1, rfl, ha.sub he, hS⟩
theorem dpQ_to {R : Ending → World → Prop} {B : Nat} {w0 : World} {er : Int × Int → Prop} (hR : ∀ x y w L, er (x, y) → St B w0 w L → R (.returned (.tuple #[.agg ⟨zP⟩, .int .i64 x, .int .i64 y])) w) :
    ∀ ex a w, DpQ R B w0 er ex a w → bodyPostD Tryd.prog Tryd.f28 R ex a w
  | .normal, a, w, h => h
  | .ret, a, w, h => h
  | .exit i, a, w, h => h
  | .goto l, a, w, h => h
  | .outgrown, a, w, h => h
  | .panic ch, a, w, h => by
    obtain ⟨g2, g3, g4, x, y, it, L, h1, rfl, h3, h4⟩ := h
    show Leaves _ _ a.tmps R a.defers (.panicking (pn x y)) w
    rw [h3.defers]
    have hp : (it :: dpL g2 g3 g4 zP 0 0 ++ L).Perm (.blk g3 34 [.int .i64 0] :: .blk g4 3 [.int .i64 0] :: .blk g2 25 zP :: it :: L) := by
      show (it :: ([_, _, _] ++ L)).Perm (([_, _, _] : List It) ++ it :: L)
      exact (List.Perm.cons it ((p_cab _ _ _).append_right L)).trans (List.perm_middle).symm
    refine leaves_cons (by simp) (by simp [go_sem]) ((catchP_calls g3 g4 x y 0 0 [] _ w (h4.permute hp)).mono ?_)
    rintro en u' w' ⟨rfl, rfl, hS⟩
    refine ⟨.tuple #[.agg ⟨zP⟩, .int .i64 x, .int .i64 y], ?_, hR x y w' _ h1 hS⟩
    have e1 : resV Tryd.prog w' (dpE g2 g3 g4) (.cell 2 25) (.agg ⟨zP⟩) := ⟨_, rfl, run_loadVarB 2 Tryd.underlying25 rfl el25 hS rfl rfl rfl⟩
    have e2 : resV Tryd.prog w' (dpE g2 g3 g4) (.cell 3 34) (.int .i64 x) := ⟨_, rfl, run_loadVar1 0 hT hS rfl rfl rfl rfl⟩
    have e3 : resV Tryd.prog w' (dpE g2 g3 g4) (.cell 4 3) (.int .i64 y) := ⟨_, rfl, run_loadVar1 1 hT hS rfl rfl rfl rfl⟩
    rw [results_eq, show Tryd.f28.results = #[.cell 2 25, .cell 3 34, .cell 4 3] from rfl]
    simp [run_resR h3 e1, run_resR h3 e2, run_resR h3 e3]
theorem gk_dpret {R : Ending → World → Prop} {B : Nat} {w0 w : World} {er : Int × Int → Prop} {e : Env} {g2 g3 g4 : Nat} {zp : List Value} {x y : Int} {it : It} {L : List It} (hz : zp.length = 7) (he : subEnv e (dpE g2 g3 g4)) (hS : St B w0 w (it :: dpL g2 g3 g4 zp x y ++ L))
    (h : R (.returned (.tuple #[.agg ⟨zp⟩, .int .i64 x, .int .i64 y])) w) :
    GK ⟨Tryd.f28.ntmps, dpD g3 g4⟩ e (DpQ R B w0 er .ret) w := fun a ha => by
  show Leaves _ _ a.tmps R a.defers .returning w
  have h3 := ha.sub he
  rw [ha.defers]
  refine leaves_cons (by simp) (by simp [go_sem]) ((catchP_idle g3 g4 w).mono ?_)
  rintro en u' w' ⟨rfl, rfl, rfl⟩
  refine ⟨.tuple #[.agg ⟨zp⟩, .int .i64 x, .int .i64 y], ?_, h⟩
  have e1 : resV Tryd.prog w' (dpE g2 g3 g4) (.cell 2 25) (.agg ⟨zp⟩) := ⟨_, rfl, run_loadVarB 1 Tryd.underlying25 rfl el25 hS rfl (by rw [List.drop_zero, List.take_of_length_le (by omega)]) hz⟩
  have e2 : resV Tryd.prog w' (dpE g2 g3 g4) (.cell 3 34) (.int .i64 x) := ⟨_, rfl, run_loadVar1 2 hT hS rfl rfl rfl rfl⟩
  have e3 : resV Tryd.prog w' (dpE g2 g3 g4) (.cell 4 3) (.int .i64 y) := ⟨_, rfl, run_loadVar1 3 hT hS rfl rfl rfl rfl⟩
  rw [results_eq, show Tryd.f28.results = #[.cell 2 25, .cell 3 34, .cell 4 3] from rfl]
  simp [run_resR h3 e1, run_resR h3 e2, run_resR h3 e3]
end Go.Proofs.YtnomlloaahoceaaDoor

