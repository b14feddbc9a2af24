/- Contracts of functions that CodeProps reaches, and words to say them. No condition. -/
import Derived.Test.YtnomlloaahoceaaDoorZ23
/- Contracts of package code: a question's bytes. No condition. -/
namespace Go.Proofs.YtnomlloaahoceaaDoor
open Go.RowKit
set_option linter.unusedVariables false
set_option linter.unusedSimpArgs false
theorem listV_0 {l : List Nat} {n : Int} (h : listV l n = 0) : (l.length : Int) = n := by
  unfold listV at h
  split at h
  · cases h
  · omega
theorem listsGo_0 {n : Int} : ∀ {ls : List (List Nat)} {at_ : Int}, (listsGo n at_ ls).1 = 0 → ∀ x ∈ ls, (x.length : Int) = n
  | [], _, _, x, hx => by cases hx
  | l :: ls, at_, h, x, hx => by
    unfold listsGo at h
    split at h
    · rename_i h1; exact absurd h h1
    · rename_i h1
      rcases List.mem_cons.1 hx with rfl | hx
      · exact listV_0 (by omega)
      · exact listsGo_0 h x hx
structure Fine (p : Px) : Prop where
  C : p.C.length ≤ 256
  G : p.G.length ≤ 256 ∧ ∀ x ∈ p.G, x.length ≤ 256
  M : p.M.length ≤ 64 ∧ ∀ x ∈ p.M, x.length ≤ 257
  T : -1 ≤ p.T ∧ p.T ≤ 256
  K : p.K ≤ 8
  D : p.D ≤ 8
  S : p.S ≤ 1024
  z : (formV p).2 = 0
theorem formV_0 {p : Px} (h : (formV p).1 = 0) : Fine p := by
  unfold formV at h
  split at h
  · cases h
  rename_i hC
  generalize hout : leastV p = out at h
  have hz : (formV p).2 = (propV p p.C.length out).2 := by unfold formV; rw [if_neg hC, hout]
  unfold propV at h hz
  split at h
  · cases h
  rename_i h1
  split at h
  · rename_i h2; exact absurd h h2
  rename_i h2
  split at h
  · cases h
  rename_i h3
  split at h
  · rename_i h4; exact absurd h h4
  rename_i h4
  split at h
  · cases h
  rename_i h5
  split at h
  · cases h
  rename_i h6
  split at h
  · rename_i h7; exact absurd h h7
  rename_i h7
  split at h
  · cases h
  rename_i h8
  split at h
  · cases h
  rename_i h9
  rw [if_neg h1, if_neg h2, if_neg h3, if_neg h4, if_neg h5, if_neg h6, if_neg h7, if_neg h8, if_neg h9] at hz
  refine ⟨by omega, ⟨by omega, fun x hx => ?_⟩, ⟨by omega, fun x hx => ?_⟩, by omega, by omega, by omega, by omega, hz⟩
  · have := listsGo_0 (Decidable.not_not.1 h4) x hx; omega
  · have := listsGo_0 (Decidable.not_not.1 h7) x hx; omega
def encG (ls : List (List Nat)) : List UInt8 := (ls.map encf).flatten
def encM (ls : List (List Nat)) : List UInt8 := (ls.map fun m => encs [(m.length : Int)] ++ encf m).flatten
theorem encG_snoc (ls : List (List Nat)) (x : List Nat) : encG (ls ++ [x]) = encG ls ++ encf x := by simp [encG]
theorem encM_snoc (ls : List (List Nat)) (x : List Nat) : encM (ls ++ [x]) = encM ls ++ (encs [(x.length : Int)] ++ encf x) := by simp [encM]
theorem encG_le {k : Nat} : ∀ (ls : List (List Nat)), (∀ x ∈ ls, x.length ≤ k) → (encG ls).length ≤ 8 * k * ls.length
  | [], _ => by simp [encG]
  | x :: r, h => by
    have h1 := encG_le r fun y hy => h y (.tail _ hy)
    have h2 := encf_le x
    have h3 := h x (.head _)
    have : encG (x :: r) = encf x ++ encG r := by simp [encG]
    rw [this, List.length_append, List.length_cons, Nat.mul_add]
    omega
theorem encs1_le (n : Nat) (h : n ≤ 1048576) : (encs [(n : Int)]).length ≤ 9 := by
  have := encs_le [(n : Int)] (fun v hv => by rw [List.mem_singleton.1 hv]; omega)
  simpa using this
theorem encM_le : ∀ (ls : List (List Nat)), (∀ x ∈ ls, x.length ≤ 257) → (encM ls).length ≤ 2065 * ls.length
  | [], _ => by simp [encM]
  | x :: r, h => by
    have h1 := encM_le r fun y hy => h y (.tail _ hy)
    have h2 := encf_le x
    have h3 := h x (.head _)
    have h4 := encs1_le x.length (by omega)
    have : encM (x :: r) = encs [(x.length : Int)] ++ encf x ++ encM r := by simp [encM]
    rw [this, List.length_append, List.length_append, List.length_cons, Nat.mul_add]
    omega
def hdP : List UInt8 := [65, 77, 66, 80, 1]
def encP1 (p : Px) : List UInt8 := hdP ++ encs [(p.C.length : Int)] ++ encf p.C ++ encs [(p.G.length : Int)]
def encP2 (p : Px) : List UInt8 := encP1 p ++ encG p.G ++ encs [p.T + 1, (p.M.length : Int)]
def encP (p : Px) : List UInt8 := encP2 p ++ encM p.M ++ encs [p.K, p.D, p.S]
def encPV (p : Px) : List UInt8 := if (formV p).1 ≠ 0 then [] else encP p ++ le4 (crcV (encP p))
theorem encP1_le {p : Px} (h : Fine p) : (encP1 p).length ≤ 2100 := by
  have h1 := encs1_le p.C.length (by have := h.C; omega)
  have h2 := encs1_le p.G.length (by have := h.G.1; omega)
  have h3 := encf_le p.C
  have := h.C
  unfold encP1 hdP
  simp only [List.length_append, List.length_cons, List.length_nil]
  omega
theorem encP2_le {p : Px} (h : Fine p) : (encP2 p).length ≤ 530000 := by
  have h1 := encP1_le h
  have h2 := encG_le p.G h.G.2
  have h3 := encs_le [p.T + 1, (p.M.length : Int)] (fun v hv => by
    have := h.T
    have := h.M.1
    rcases List.mem_cons.1 hv with rfl | hv
    · omega
    · rw [List.mem_singleton.1 hv]; omega)
  have := h.G.1
  unfold encP2
  simp only [List.length_append, List.length_cons, List.length_nil] at h3 ⊢
  omega
theorem encP_le {p : Px} (h : Fine p) : (encP p).length ≤ 700000 := by
  have h1 := encP2_le h
  have h2 := encM_le p.M h.M.2
  have h3 := encs_le [p.K, p.D, p.S] (fun v hv => by
    have := h.K
    have := h.D
    have := h.S
    rcases List.mem_cons.1 hv with rfl | hv
    · omega
    · rcases List.mem_cons.1 hv with rfl | hv
      · omega
      · rw [List.mem_singleton.1 hv]; omega)
  have := h.M.1
  unfold encP
  simp only [List.length_append, List.length_cons, List.length_nil] at h3 ⊢
  omega
theorem mem2 {a b k : Int} (h1 : a ≤ k) (h2 : b ≤ k) : ∀ v ∈ [a, b], v ≤ k := fun v hv => by
  rcases List.mem_cons.1 hv with rfl | hv
  · exact h1
  · rw [List.mem_singleton.1 hv]; exact h2
theorem mem3 {a b c k : Int} (h1 : a ≤ k) (h2 : b ≤ k) (h3 : c ≤ k) : ∀ v ∈ [a, b, c], v ≤ k := fun v hv => by
  rcases List.mem_cons.1 hv with rfl | hv
  · exact h1
  · exact mem2 h2 h3 v hv
set_option maxHeartbeats 4000000 in
set_option maxRecDepth 100000 in
theorem encodeProp_calls (C G M : Sv) (SG SM : List Sv) (p : Px) (w : World) {ok : Nat → Prop} (D : PrM w ok C G M SG SM p) :
    Calls Tryd.prog 7 ⟨[.agg ⟨propC C G M p⟩]⟩ w fun e w' => ∃ A c, e = .returned (.tuple #[.slice A (encPV p).length c, .int .i64 (formV p).1, .int .i64 (formV p).2]) ∧ St w.heap.size w w' [.row A c 5 1 (encPV p).length ((encPV p).map uB)] := by
  have hnC := D.nC
  have hnG := D.nG
  have hnM := D.nM
  obtain ⟨C1, C2, C3⟩ := C
  obtain ⟨G1, G2, G3⟩ := G
  obtain ⟨M1, M2, M3⟩ := M
  simp only at hnC hnG hnM
  subst hnC
  subst hnG
  subst hnM
  have hGl := D.rG.len
  have hMl := D.rM.len
  refine gc_enter (N := 96) Tryd.func7 rfl rfl rfl [(0, _)] rfl ?_
  have hS := St.start w
  refine gc_seq fun K1 hK1 => ?_
  refine gc_region ?_
  refine gl_box hS rfl rfl rfl rfl rfl fun g1 w1 hS => ?_
  refine gl_op rfl rfl rfl (op_pure hT rfl) ?_
  refine gl_op rfl rfl rfl (op_pure hT rfl) ?_
  refine gl_op rfl rfl rfl (op_pure hT rfl) ?_
  refine gl_nil ?_
  refine hK1 _ _ ?_
  clear hK1; try clear K1
  refine gc_seq fun K2 hK2 => ?_
  refine gc_seq fun K3 hK3 => ?_
  refine gc_region ?_
  refine gl_op rfl rfl rfl (op_loadG 0 Tryd.underlying25 rfl el25 hS rfl rfl rfl rfl rfl) ?_
  refine gl_callf rfl rfl rfl rfl Tryd.func8 rfl rfl rfl (checkForm_calls _ _ _ SG SM p _ (D.old hS)) ?_
  rintro _ w14 ⟨rfl, hb14⟩
  refine ⟨_, rfl, ?_⟩
  have hS := hS.grown hb14
  refine gl_op rfl rfl rfl (op_pure hT rfl) ?_
  refine gl_op rfl rfl rfl (op_pure hT rfl) ?_
  refine gl_op rfl rfl rfl (op_pure hT rfl) ?_
  refine gl_op rfl rfl rfl (op_pure hT rfl) ?_
  refine gl_op rfl rfl rfl (op_pure hT rfl) ?_
  refine gl_nil ?_
  refine hK3 _ _ ?_
  clear hK3; try clear K3
  refine gc_seq fun K4 hK4 => ?_
  refine gc_region ?_
  refine gl_op rfl rfl rfl (op_pure hT rfl) ?_
  refine gl_op rfl rfl rfl (op_pure hT rfl) ?_
  refine gl_nil ?_
  refine hK4 _ _ ?_
  clear hK4; try clear K4
  refine gc_cond rfl rfl (fun c18 => ?_) (fun c18 => ?_)
  · try simp only [decide_eq_true_eq, decide_eq_false_iff_not, Bool.not_eq_true', Bool.not_eq_false', Int.not_lt, Int.not_le, Nat.not_lt, Nat.not_le, Bool.true_eq, Bool.false_eq, reduceCtorEq] at c18
    have hz : encPV p = [] := by unfold encPV; rw [if_pos (by omega)]
    refine gc_seq fun K5 hK5 => ?_
    refine gc_region ?_
    refine gl_op rfl rfl rfl (op_pure hT rfl) ?_
    refine gl_op rfl rfl rfl (op_pure hT rfl) ?_
    refine gl_op rfl rfl rfl (op_pure hT rfl) ?_
    refine gl_op rfl rfl rfl (op_pure hT rfl) ?_
    refine gl_op rfl rfl rfl (op_pure hT rfl) ?_
    refine gl_nil ?_
    refine hK5 _ _ ?_
    clear hK5; try clear K5
    refine gc_ret ?_
    try simp only [x_then_ret, x_block_ret]
    refine gk_ret3 rfl rfl rfl rfl ?_
    rw [hz]
    exact ⟨none, 0, rfl, (hS.nil 5 1).erase 0⟩
  · try simp only [decide_eq_true_eq, decide_eq_false_iff_not, Bool.not_eq_true', Bool.not_eq_false', Int.not_lt, Int.not_le, Nat.not_lt, Nat.not_le, Bool.true_eq, Bool.false_eq, reduceCtorEq] at c18
    have hf := formV_0 (by omega : (formV p).1 = 0)
    have hfz : (formV p).1 = 0 := by omega
    have hfT := hf.T
    have hfG := hf.G.1
    have hfM := hf.M.1
    have hfC := hf.C
    refine gc_skip ?_
    refine hK2 _ _ ?_
    clear hK2; try clear K2
    refine gc_cut (fun a w' => ∃ gc A c l X, Fr 96 a [(1, .pointer (some ⟨g1, 0, none⟩)), (7, .pointer (some ⟨gc, 0, none⟩))] ∧ l = hdP ∧ ObjRow X 5 A c l.length (l.map uB) ∧ St w.heap.size w w' [.blk gc 54 (cuC A (l).length c 0 []), X, .blk g1 25 (propC (C1, p.C.length, C3) (G1, p.G.length, G3) (M1, p.M.length, M3) p)]) ?_ ?_
    · skip
      refine gc_region ?_
      refine gl_lit hT hS el5 rfl rfl rfl rfl rfl rfl rfl rfl rfl fun g21 w21 hS => ?_
      refine gl_mark 1 hT hS rfl rfl rfl rfl rfl rfl rfl rfl fun w22 cur22 fz22 hcur22 hS => ?_
      refine gl_op rfl rfl rfl (op_buildG rfl plan54 rfl rfl) ?_
      refine gl_box hS rfl rfl rfl rfl rfl fun g24 w24 hS => ?_
      refine gl_op rfl rfl rfl (op_pure hT rfl) ?_
      refine gl_nil ?_
      intro a ha
      exact ⟨g24, _, _, hdP, _, ha.sub ⟨rfl, rfl, trivial⟩, rfl, ⟨_, _, _, rfl, rfl, rfl, rfl, hcur22⟩, hS.permute (p_cba _ _ _)⟩
    rintro a w1 ⟨gc, A, c, l, X, hF, hl, hX, hS⟩
    refine gc_of hF ?_
    clear hF
    have hll : l.length = 5 := by rw [hl]; rfl
    refine gc_seq fun K6 hK6 => ?_
    refine gc_region ?_
    refine gl_op rfl rfl rfl (op_pure hT rfl) ?_
    refine gl_op rfl rfl rfl (op_fieldB 0 rfl Tryd.underlying25 rfl el22 rfl rfl) ?_
    refine gl_op rfl rfl rfl (op_loadB 2 hT hS rfl rfl rfl rfl rfl rfl) ?_
    refine gl_op rfl rfl rfl (op_pure hT rfl) ?_
    refine gl_lit hT hS el3 rfl rfl rfl rfl rfl rfl rfl rfl rfl fun g29 w29 hS => ?_
    refine gl_callf rfl rfl rfl rfl Tryd.func20 rfl rfl rfl (putUint_calls gc _ A c (l) 0 [] _ _ _ 1 ([(p.C.length : Int)]) _ hS (.inr ⟨hX, _, _, rfl, by omega⟩) (fun hS => hS.rdE (i := 3) rfl) rfl (by simp; omega) (fun v hv => by rw [List.mem_singleton.1 hv]; omega)) ?_
    rintro _ w30 ⟨rfl, A, c, hS⟩
    refine ⟨_, rfl, ?_⟩
    have hS := hS.erase 3
    refine gl_nil ?_
    refine hK6 _ _ ?_
    clear hK6; try clear K6
    refine gc_seq fun K7 hK7 => ?_
    refine gc_region ?_
    refine gl_op rfl rfl rfl (op_pure hT rfl) ?_
    refine gl_op rfl rfl rfl (op_fieldB 0 rfl Tryd.underlying25 rfl el22 rfl rfl) ?_
    refine gl_op rfl rfl rfl (op_loadB 2 hT hS rfl rfl rfl rfl rfl rfl) ?_
    refine gl_callf rfl rfl rfl rfl Tryd.func21 rfl rfl rfl (putFloats_calls gc _ A c (l ++ encs [(p.C.length : Int)]) 0 [] _ _ _ p.C.length (p.C) _ hS (fun hS => D.rC.old hS) rfl (by have := encs1_le p.C.length (by omega); rw [List.length_append]; omega) (D.fC)) ?_
    rintro _ w34 ⟨rfl, A, c, hS⟩
    refine ⟨_, rfl, ?_⟩
    refine gl_nil ?_
    refine hK7 _ _ ?_
    clear hK7; try clear K7
    refine gc_seq fun K8 hK8 => ?_
    refine gc_region ?_
    refine gl_op rfl rfl rfl (op_pure hT rfl) ?_
    refine gl_op rfl rfl rfl (op_fieldB 1 rfl Tryd.underlying25 rfl el23 rfl rfl) ?_
    refine gl_op rfl rfl rfl (op_loadB 2 hT hS rfl rfl rfl rfl rfl rfl) ?_
    refine gl_op rfl rfl rfl (op_pure hT rfl) ?_
    refine gl_lit hT hS el3 rfl rfl rfl rfl rfl rfl rfl rfl rfl fun g39 w39 hS => ?_
    refine gl_callf rfl rfl rfl rfl Tryd.func20 rfl rfl rfl (putUint_calls gc _ A c (l ++ encs [(p.C.length : Int)] ++ encf p.C) 0 [] _ _ _ 1 ([(p.G.length : Int)]) _ hS (.inl rfl) (fun hS => hS.rdE (i := 3) rfl) rfl (by have := encs1_le p.C.length (by omega); have := encf_le p.C; simp only [List.length_append, List.length_cons, List.length_nil]; omega) (fun v hv => by rw [List.mem_singleton.1 hv]; omega)) ?_
    rintro _ w40 ⟨rfl, A, c, hS⟩
    refine ⟨_, rfl, ?_⟩
    have hS := hS.erase 3
    have hl1 : l ++ encs [(p.C.length : Int)] ++ encf p.C ++ encs [(p.G.length : Int)] = encP1 p := by rw [hl]; rfl
    rw [hl1] at hS
    clear hl1 hl hll
    refine gl_nil ?_
    refine hK8 _ _ ?_
    clear hK8; try clear K8
    refine gc_seq fun K9 hK9 => ?_
    refine gc_seq fun K10 hK10 => ?_
    refine gc_region ?_
    refine gl_op rfl rfl rfl (op_fieldB 1 rfl Tryd.underlying25 rfl el23 rfl rfl) ?_
    refine gl_op rfl rfl rfl (op_loadB 2 hT hS rfl rfl rfl rfl rfl rfl) ?_
    refine gl_op rfl rfl rfl (op_pure hT rfl) ?_
    refine gl_op rfl rfl rfl (op_pure hT rfl) ?_
    refine gl_nil ?_
    refine hK10 _ _ ?_
    clear hK10; try clear K10
    refine gc_block ?_
    refine gc_loop (fun kk a' w' => ∃ (i : Nat) (m : List UInt8) (A : Option Addr) (c : Nat), Fr 96 a' [(1, .pointer (some ⟨g1, 0, none⟩)), (7, .pointer (some ⟨gc, 0, none⟩)), (42, .slice G1 p.G.length G3), (43, .int .i64 (p.G.length : Nat)), (44, .int .i64 (i : Nat))] ∧ i ≤ p.G.length ∧ kk = p.G.length + 1 - i ∧ m = encP1 p ++ encG (p.G.take i) ∧
      St w.heap.size w w' [.blk gc 54 (cuC A (m).length c 0 []), .row A c 5 1 (m).length ((m).map uB), .blk g1 25 (propC (C1, p.C.length, C3) (G1, p.G.length, G3) (M1, p.M.length, M3) p)]) (p.G.length + 1) ?_ ?_ ?_
    · intro a' ha; exact ⟨0, encP1 p, A, c, ha.sub ⟨rfl, rfl, rfl, rfl, rfl, trivial⟩, by omega, by omega, by simp [encG], hS⟩
    · rintro a' w' ⟨i, _, _, _, _, h1, h2, _⟩; omega
    clear hS
    rintro kk a' w1 ⟨i, m, A, c, hF, hi, hk, hm, hS⟩
    refine gc_of hF ?_
    clear hF
    have hml : m.length ≤ 530000 := by
      have h1 := encP1_le hf
      have h2 := encG_le (k := 256) (p.G.take i) fun x hx => hf.G.2 x (List.mem_of_mem_take hx)
      rw [List.length_take] at h2
      rw [hm, List.length_append]
      omega
    refine gc_seq fun K11 hK11 => ?_
    refine gc_region ?_
    refine gl_op rfl rfl rfl (op_pure hT rfl) ?_
    refine gl_nil ?_
    refine hK11 _ _ ?_
    clear hK11; try clear K11
    refine gc_seq fun K12 hK12 => ?_
    refine gc_cond rfl rfl (fun c45 => ?_) (fun c45 => ?_)
    · try simp only [decide_eq_true_eq, decide_eq_false_iff_not, Bool.not_eq_true', Bool.not_eq_false', Int.not_lt, Int.not_le, Nat.not_lt, Nat.not_le, Bool.true_eq, Bool.false_eq, reduceCtorEq] at c45
      refine gc_skip ?_
      refine hK12 _ _ ?_
      clear hK12; try clear K12
      refine gc_seq fun K13 hK13 => ?_
      refine gc_block ?_
      refine gc_seq fun K14 hK14 => ?_
      refine gc_region ?_
      have hiG : i < p.G.length := by omega
      obtain ⟨x, hx⟩ : ∃ x, p.G[i]? = some x := ⟨_, List.getElem?_eq_getElem hiG⟩
      obtain ⟨y, hy⟩ : ∃ y, SG[i]? = some y := ⟨_, List.getElem?_eq_getElem (by omega)⟩
      have hxy := D.rG.rd i y x hy hx
      have hx256 := hf.G.2 x (List.mem_of_getElem? hx)
      have htk : p.G.take (i + 1) = p.G.take i ++ [x] := by rw [List.take_add_one, hx]; rfl
      obtain ⟨ad, hA, hcl⟩ := (D.rG.rS.old hS).at (none, 0, 0) (i := (i : Int)) (by omega) (by omega)
      have hug : SG.getD ((i : Int)).toNat (none, 0, 0) = y := by rw [Int.toNat_natCast, List.getD_eq_getElem?_getD, hy]; rfl
      rw [hug] at hcl
      obtain ⟨y1, y2, y3⟩ := y
      obtain ⟨hxy1, hxy2, hxy3⟩ := hxy
      simp only at hxy1 hxy2
      subst hxy2
      refine gl_op rfl rfl rfl (op_indexAddr hT rfl rfl el22.cellsOf.1 el22.cellsOf.2 rfl rfl (by omega) (by omega) hA) ?_
      refine gl_op rfl rfl rfl (op_load hT rfl rfl rfl rfl hcl) ?_
      refine gl_op rfl rfl rfl (op_pure hT rfl) ?_
      refine gl_nil ?_
      refine hK14 _ _ ?_
      clear hK14; try clear K14
      refine gc_region ?_
      refine gl_op rfl rfl rfl (op_pure hT rfl) ?_
      refine gl_op rfl rfl rfl (op_pure hT rfl) ?_
      refine gl_callf rfl rfl rfl rfl Tryd.func21 rfl rfl rfl (putFloats_calls gc _ A c (m) 0 [] _ _ _ x.length (x) _ hS (fun hS => hxy1.old hS) rfl (by omega) (hxy3.2)) ?_
      rintro _ w50 ⟨rfl, A, c, hS⟩
      refine ⟨_, rfl, ?_⟩
      refine gl_nil ?_
      refine hK13 _ _ ?_
      clear hK13; try clear K13
      refine gc_region ?_
      first | refine gl_fit hT rfl rfl rfl rfl (by omega) ?_ | refine gl_op rfl rfl rfl (op_pure hT rfl) ?_
      refine gl_op rfl rfl rfl (op_pure hT rfl) ?_
      refine gl_nil ?_
      intro a' ha
      exact ⟨i + 1, m ++ encf x, A, c, ha.sub ⟨rfl, rfl, rfl, rfl, rfl, trivial⟩, by omega, by omega, by rw [hm, htk, encG_snoc, List.append_assoc], hS⟩
    · try simp only [decide_eq_true_eq, decide_eq_false_iff_not, Bool.not_eq_true', Bool.not_eq_false', Int.not_lt, Int.not_le, Nat.not_lt, Nat.not_le, Bool.true_eq, Bool.false_eq, reduceCtorEq] at c45
      have hiG : i = p.G.length := by omega
      subst hiG
      rw [List.take_length] at hm
      refine gc_exit ?_
      refine hK9 _ _ ?_
      clear hK9; try clear K9
      refine gc_seq fun K15 hK15 => ?_
      refine gc_region ?_
      refine gl_op rfl rfl rfl (op_pure hT rfl) ?_
      refine gl_op rfl rfl rfl (op_fieldB 2 rfl Tryd.underlying25 rfl el3 rfl rfl) ?_
      refine gl_op rfl rfl rfl (op_loadB 2 hT hS rfl rfl rfl rfl rfl rfl) ?_
      refine gl_fit hT rfl rfl rfl rfl (by omega) ?_
      refine gl_op rfl rfl rfl (op_fieldB 3 rfl Tryd.underlying25 rfl el23 rfl rfl) ?_
      refine gl_op rfl rfl rfl (op_loadB 2 hT hS rfl rfl rfl rfl rfl rfl) ?_
      refine gl_op rfl rfl rfl (op_pure hT rfl) ?_
      refine gl_lit hT hS el3 rfl rfl rfl rfl rfl rfl rfl rfl rfl fun g59 w59 hS => ?_
      refine gl_callf rfl rfl rfl rfl Tryd.func20 rfl rfl rfl (putUint_calls gc _ A c (m) 0 [] _ _ _ 2 ([p.T + 1, (p.M.length : Int)]) _ hS (.inl rfl) (fun hS => hS.rdE (i := 3) rfl) rfl (by simp; omega) (mem2 (by omega) (by omega))) ?_
      rintro _ w60 ⟨rfl, A, c, hS⟩
      refine ⟨_, rfl, ?_⟩
      have hS := hS.erase 3
      have hl2 : m ++ encs [p.T + 1, (p.M.length : Int)] = encP2 p := by rw [hm]; rfl
      rw [hl2] at hS
      clear hl2 hm
      refine gl_nil ?_
      refine hK15 _ _ ?_
      clear hK15; try clear K15
      refine gc_seq fun K16 hK16 => ?_
      refine gc_seq fun K17 hK17 => ?_
      refine gc_region ?_
      refine gl_op rfl rfl rfl (op_fieldB 3 rfl Tryd.underlying25 rfl el23 rfl rfl) ?_
      refine gl_op rfl rfl rfl (op_loadB 2 hT hS rfl rfl rfl rfl rfl rfl) ?_
      refine gl_op rfl rfl rfl (op_pure hT rfl) ?_
      refine gl_op rfl rfl rfl (op_pure hT rfl) ?_
      refine gl_nil ?_
      refine hK17 _ _ ?_
      clear hK17; try clear K17
      refine gc_block ?_
      refine gc_loop (fun kk a' w' => ∃ (i : Nat) (m : List UInt8) (A : Option Addr) (c : Nat), Fr 96 a' [(1, .pointer (some ⟨g1, 0, none⟩)), (7, .pointer (some ⟨gc, 0, none⟩)), (62, .slice M1 p.M.length M3), (63, .int .i64 (p.M.length : Nat)), (64, .int .i64 (i : Nat))] ∧ i ≤ p.M.length ∧ kk = p.M.length + 1 - i ∧ m = encP2 p ++ encM (p.M.take i) ∧
        St w.heap.size w w' [.blk gc 54 (cuC A (m).length c 0 []), .row A c 5 1 (m).length ((m).map uB), .blk g1 25 (propC (C1, p.C.length, C3) (G1, p.G.length, G3) (M1, p.M.length, M3) p)]) (p.M.length + 1) ?_ ?_ ?_
      · intro a' ha; exact ⟨0, encP2 p, A, c, ha.sub ⟨rfl, rfl, rfl, rfl, rfl, trivial⟩, by omega, by omega, by simp [encM], hS⟩
      · rintro a' w' ⟨i, _, _, _, _, h1, h2, _⟩; omega
      clear hS
      rintro kk a' w1 ⟨i, m, A, c, hF, hi, hk, hm, hS⟩
      refine gc_of hF ?_
      clear hF
      have hml : m.length ≤ 700000 := by
        have h1 := encP2_le hf
        have h2 := encM_le (p.M.take i) fun x hx => hf.M.2 x (List.mem_of_mem_take hx)
        rw [List.length_take] at h2
        rw [hm, List.length_append]
        omega
      refine gc_seq fun K18 hK18 => ?_
      refine gc_region ?_
      refine gl_op rfl rfl rfl (op_pure hT rfl) ?_
      refine gl_nil ?_
      refine hK18 _ _ ?_
      clear hK18; try clear K18
      refine gc_seq fun K19 hK19 => ?_
      refine gc_cond rfl rfl (fun c65 => ?_) (fun c65 => ?_)
      · try simp only [decide_eq_true_eq, decide_eq_false_iff_not, Bool.not_eq_true', Bool.not_eq_false', Int.not_lt, Int.not_le, Nat.not_lt, Nat.not_le, Bool.true_eq, Bool.false_eq, reduceCtorEq] at c65
        refine gc_skip ?_
        refine hK19 _ _ ?_
        clear hK19; try clear K19
        refine gc_seq fun K20 hK20 => ?_
        refine gc_block ?_
        refine gc_seq fun K21 hK21 => ?_
        refine gc_region ?_
        have hiM : i < p.M.length := by omega
        obtain ⟨x, hx⟩ : ∃ x, p.M[i]? = some x := ⟨_, List.getElem?_eq_getElem hiM⟩
        obtain ⟨y, hy⟩ : ∃ y, SM[i]? = some y := ⟨_, List.getElem?_eq_getElem (by omega)⟩
        have hxy := D.rM.rd i y x hy hx
        have hx256 := hf.M.2 x (List.mem_of_getElem? hx)
        have htk : p.M.take (i + 1) = p.M.take i ++ [x] := by rw [List.take_add_one, hx]; rfl
        obtain ⟨ad, hA, hcl⟩ := (D.rM.rS.old hS).at (none, 0, 0) (i := (i : Int)) (by omega) (by omega)
        have hug : SM.getD ((i : Int)).toNat (none, 0, 0) = y := by rw [Int.toNat_natCast, List.getD_eq_getElem?_getD, hy]; rfl
        rw [hug] at hcl
        obtain ⟨y1, y2, y3⟩ := y
        obtain ⟨hxy1, hxy2, hxy3⟩ := hxy
        simp only at hxy1 hxy2
        subst hxy2
        refine gl_op rfl rfl rfl (op_indexAddr hT rfl rfl el22.cellsOf.1 el22.cellsOf.2 rfl rfl (by omega) (by omega) hA) ?_
        refine gl_op rfl rfl rfl (op_load hT rfl rfl rfl rfl hcl) ?_
        refine gl_op rfl rfl rfl (op_pure hT rfl) ?_
        refine gl_nil ?_
        refine hK21 _ _ ?_
        clear hK21; try clear K21
        refine gc_seq fun K22 hK22 => ?_
        refine gc_region ?_
        refine gl_op rfl rfl rfl (op_pure hT rfl) ?_
        refine gl_op rfl rfl rfl (op_pure hT rfl) ?_
        refine gl_op rfl rfl rfl (op_pure hT rfl) ?_
        refine gl_lit hT hS el3 rfl rfl rfl rfl rfl rfl rfl rfl rfl fun g71 w71 hS => ?_
        refine gl_callf rfl rfl rfl rfl Tryd.func20 rfl rfl rfl (putUint_calls gc _ A c (m) 0 [] _ _ _ 1 ([(x.length : Int)]) _ hS (.inl rfl) (fun hS => hS.rdE (i := 3) rfl) rfl (by simp; omega) (fun v hv => by rw [List.mem_singleton.1 hv]; omega)) ?_
        rintro _ w72 ⟨rfl, A, c, hS⟩
        refine ⟨_, rfl, ?_⟩
        have hS := hS.erase 3
        refine gl_nil ?_
        refine hK22 _ _ ?_
        clear hK22; try clear K22
        refine gc_region ?_
        refine gl_op rfl rfl rfl (op_pure hT rfl) ?_
        refine gl_op rfl rfl rfl (op_pure hT rfl) ?_
        refine gl_callf rfl rfl rfl rfl Tryd.func21 rfl rfl rfl (putFloats_calls gc _ A c (m ++ encs [(x.length : Int)]) 0 [] _ _ _ x.length (x) _ hS (fun hS => hxy1.old hS) rfl (by have := encs1_le x.length (by omega); rw [List.length_append]; omega) (hxy3.2)) ?_
        rintro _ w75 ⟨rfl, A, c, hS⟩
        refine ⟨_, rfl, ?_⟩
        refine gl_nil ?_
        refine hK20 _ _ ?_
        clear hK20; try clear K20
        refine gc_region ?_
        first | refine gl_fit hT rfl rfl rfl rfl (by omega) ?_ | refine gl_op rfl rfl rfl (op_pure hT rfl) ?_
        refine gl_op rfl rfl rfl (op_pure hT rfl) ?_
        refine gl_nil ?_
        intro a' ha
        exact ⟨i + 1, m ++ encs [(x.length : Int)] ++ encf x, A, c, ha.sub ⟨rfl, rfl, rfl, rfl, rfl, trivial⟩, by omega, by omega, by rw [hm, htk, encM_snoc, List.append_assoc, List.append_assoc], hS⟩
      · try simp only [decide_eq_true_eq, decide_eq_false_iff_not, Bool.not_eq_true', Bool.not_eq_false', Int.not_lt, Int.not_le, Nat.not_lt, Nat.not_le, Bool.true_eq, Bool.false_eq, reduceCtorEq] at c65
        have hiM : i = p.M.length := by omega
        subst hiM
        rw [List.take_length] at hm
        have hfK := hf.K
        have hfD := hf.D
        have hfS := hf.S
        refine gc_exit ?_
        refine hK16 _ _ ?_
        clear hK16; try clear K16
        refine gc_seq fun K23 hK23 => ?_
        refine gc_region ?_
        refine gl_op rfl rfl rfl (op_pure hT rfl) ?_
        refine gl_op rfl rfl rfl (op_fieldB 4 rfl Tryd.underlying25 rfl el3 rfl rfl) ?_
        refine gl_op rfl rfl rfl (op_loadB 2 hT hS rfl rfl rfl rfl rfl rfl) ?_
        refine gl_op rfl rfl rfl (op_fieldB 5 rfl Tryd.underlying25 rfl el3 rfl rfl) ?_
        refine gl_op rfl rfl rfl (op_loadB 2 hT hS rfl rfl rfl rfl rfl rfl) ?_
        refine gl_op rfl rfl rfl (op_fieldB 6 rfl Tryd.underlying25 rfl el3 rfl rfl) ?_
        refine gl_op rfl rfl rfl (op_loadB 2 hT hS rfl rfl rfl rfl rfl rfl) ?_
        refine gl_lit hT hS el3 rfl rfl rfl rfl rfl rfl rfl rfl rfl fun g84 w84 hS => ?_
        refine gl_callf rfl rfl rfl rfl Tryd.func20 rfl rfl rfl (putUint_calls gc _ A c (m) 0 [] _ _ _ 3 ([p.K, p.D, p.S]) _ hS (.inl rfl) (fun hS => hS.rdE (i := 3) rfl) rfl (by simp; omega) (mem3 (by omega) (by omega) (by omega))) ?_
        rintro _ w85 ⟨rfl, A, c, hS⟩
        refine ⟨_, rfl, ?_⟩
        have hS := hS.erase 3
        have hl3 : m ++ encs [p.K, p.D, p.S] = encP p := by rw [hm]; rfl
        rw [hl3] at hS
        clear hl3 hm
        have hl7 := encP_le hf
        have hev : encPV p = encP p ++ le4 (crcV (encP p)) := by unfold encPV; rw [if_neg (by omega)]
        refine gl_nil ?_
        refine hK23 _ _ ?_
        clear hK23; try clear K23
        refine gc_seq fun K24 hK24 => ?_
        refine gc_anyS (hS.blank 1) (by kernel_rfl) rfl fun nq21 hK => ?_
        have hS := hS.dr nq21
        refine ga_take 0 rfl rfl rfl rfl (by kernel_rfl) (fun _ _ _ _ h => h) hK (fun w1 hS => op_pure hT rfl) ?_
        refine ga_take 1 rfl rfl rfl rfl (by kernel_rfl) (fun _ _ _ _ h => h) hK (fun w1 hS => op_pure hT rfl) ?_
        refine ga_take 2 rfl rfl rfl rfl (by kernel_rfl) (fun _ _ _ _ h => h) hK (fun w1 hS => op_fieldB 0 rfl Tryd.underlying54 rfl el31 rfl rfl) ?_
        refine ga_take 3 rfl rfl rfl rfl (by kernel_rfl) (fun _ _ _ _ h => h) hK (fun w1 hS => op_loadB 0 hT hS rfl rfl rfl rfl rfl rfl) ?_
        refine ga_take 4 rfl rfl rfl rfl (by kernel_rfl) (fun _ _ _ _ h => h) hK (fun w1 hS => op_pure hT rfl) ?_
        refine ga_take 5 rfl rfl rfl rfl (by kernel_rfl) (fun _ _ _ _ h => h) hK (fun w1 hS => op_pure hT rfl) ?_
        refine ga_take 6 rfl rfl rfl rfl (by kernel_rfl) (fun _ _ _ _ h => h) hK (fun w1 hS => op_fieldB 0 rfl Tryd.underlying54 rfl el31 rfl rfl) ?_
        refine ga_take 7 rfl rfl rfl rfl (by kernel_rfl) (fun _ _ _ _ h => h) hK (fun w1 hS => op_loadB 0 hT hS rfl rfl rfl rfl rfl rfl) ?_
        refine ga_one 8 (by kernel_rfl) rfl ?_
        refine gl_callf rfl rfl rfl rfl Tryd.func22 rfl rfl rfl (sealed_calls A _ c (encP p) _ (hS.rdE (i := 1) rfl) rfl (by omega)) ?_
        rintro _ w94 ⟨A94, c94, rfl, hr94, hb94⟩
        refine ⟨_, rfl, ?_⟩
        have hS := hS.addRow hb94 hr94
        refine gl_nil ?_
        refine ga_next ((hS.blank 1).pre 3) fun hK => ?_
        refine ga_one 9 (by kernel_rfl) rfl ?_
        refine gl_append 1 hT hS el5 (hS.rd (i := 3) rfl) (allOne_map (fun _ => rfl) _) rfl rfl rfl rfl rfl rfl rfl rfl (by first | omega | (simp; omega)) (by first | omega | (simp; omega)) fun A95 c95 w95 hS => ?_
        have hS := hS.erase 3
        refine gl_nil ?_
        refine ga_next ((hS.blank 1).pre 3) fun hK => ?_
        refine ga_take 10 rfl rfl rfl rfl (by kernel_rfl) (fun _ _ _ _ h => h) hK (fun w1 hS => op_pure hT rfl) ?_
        refine ga_take 11 rfl rfl rfl rfl (by kernel_rfl) (fun _ _ _ _ h => h) hK (fun w1 hS => op_pure hT rfl) ?_
        refine ga_take 12 rfl rfl rfl rfl (by kernel_rfl) (fun _ _ _ _ h => h) hK (fun w1 hS => op_pure hT rfl) ?_
        refine ga_done (by kernel_rfl) ?_
        refine hK24 _ _ ?_
        clear hK24; try clear K24
        refine gc_ret ?_
        try simp only [x_then_ret, x_block_ret]
        refine gk_ret3 rfl rfl rfl rfl ?_
        rw [hev, hfz, hf.z]
        refine ⟨A95, c95, ?_, ?_⟩
        · rw [List.length_append]; rfl
        · rw [List.length_append, List.map_append]
          exact (hS.erase 0).erase 1
end Go.Proofs.YtnomlloaahoceaaDoor

