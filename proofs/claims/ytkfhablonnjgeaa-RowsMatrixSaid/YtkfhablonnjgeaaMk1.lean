/- The contract of ambitlaw7.made. No condition. -/
import Derived.Test.YtkfhablonnjgeaaRs1
import Derived.Test.YtkfhablonnjgeaaLibN
import Derived.Test.YtkfhablonnjgeaaRo3
import Derived.Test.YtkfhablonnjgeaaMxL
namespace Go.Proofs.Ytkfhablonnjgeaa
open Go.RowKit
set_option linter.unusedVariables false
set_option linter.unusedSimpArgs false
@[reducible] def mdL (k out kh kw sh sw ph pw : Int) (a : Nat) (W B Z ZB : Sv) : Ly := ⟨k, out, kh, kw, sh, sw, ph, pw, 0, a, W, B, Z, ZB⟩
@[reducible] def whC (k out kh kw sh sw ph pw seed : Int) : List Value := [.int .i64 k, .int .i64 out, .int .i64 kh, .int .i64 kw, .int .i64 sh, .int .i64 sw, .int .i64 ph, .int .i64 pw, .int .i64 seed]
def mdA (k seed : Int) : Nat := if k = 4 then fI (smallV seed 7) else 0
def mdW (seed : Int) (n : Nat) : List Nat := (List.range n).map fun (i : Nat) => fI (smallV seed (3 * (i : Int)))
def mdB (seed : Int) (n : Nat) : List Nat := (List.range n).map fun (i : Nat) => fI (smallV seed (5 * (i : Int) + 1))
def mdZ (seed : Int) (n : Nat) : List (Nat × Nat) := (List.range n).map fun (i : Nat) => (fI (smallV seed (2 * (i : Int))), fI (smallV seed (9 * (i : Int) + 4)))
def mdY (seed : Int) (n : Nat) : List (Nat × Nat) := (List.range n).map fun (i : Nat) => (fI (smallV seed ((i : Int) + 2)), fI (smallV seed (6 * (i : Int))))
theorem mdW_succ (s : Int) (n : Nat) : mdW s (n + 1) = mdW s n ++ [fI (smallV s (3 * (n : Int)))] := by simp [mdW, List.range_succ]
theorem mdB_succ (s : Int) (n : Nat) : mdB s (n + 1) = mdB s n ++ [fI (smallV s (5 * (n : Int) + 1))] := by simp [mdB, List.range_succ]
theorem mdZ_succ (s : Int) (n : Nat) : mdZ s (n + 1) = mdZ s n ++ [(fI (smallV s (2 * (n : Int))), fI (smallV s (9 * (n : Int) + 4)))] := by simp [mdZ, List.range_succ]
theorem mdY_succ (s : Int) (n : Nat) : mdY s (n + 1) = mdY s n ++ [(fI (smallV s ((n : Int) + 2)), fI (smallV s (6 * (n : Int))))] := by simp [mdY, List.range_succ]
theorem mdW_len (s : Int) (n : Nat) : (mdW s n).length = n := by simp [mdW]
theorem mdB_len (s : Int) (n : Nat) : (mdB s n).length = n := by simp [mdB]
theorem mdZ_len (s : Int) (n : Nat) : (mdZ s n).length = n := by simp [mdZ]
theorem mdY_len (s : Int) (n : Nat) : (mdY s n).length = n := by simp [mdY]
theorem mdW_sm (s : Int) (n : Nat) : smL (mdW s n) := fun u hu => by
  unfold mdW at hu; obtain ⟨i, _, rfl⟩ := List.mem_map.1 hu; exact ⟨_, smallV_bd _ _, rfl⟩
theorem mdB_sm (s : Int) (n : Nat) : smL (mdB s n) := fun u hu => by
  unfold mdB at hu; obtain ⟨i, _, rfl⟩ := List.mem_map.1 hu; exact ⟨_, smallV_bd _ _, rfl⟩
theorem mdZ_sm (s : Int) (n : Nat) : smP (mdZ s n) := fun u hu => by
  unfold mdZ at hu; obtain ⟨i, _, rfl⟩ := List.mem_map.1 hu; exact ⟨⟨_, smallV_bd _ _, rfl⟩, ⟨_, smallV_bd _ _, rfl⟩⟩
theorem mdY_sm (s : Int) (n : Nat) : smP (mdY s n) := fun u hu => by
  unfold mdY at hu; obtain ⟨i, _, rfl⟩ := List.mem_map.1 hu; exact ⟨⟨_, smallV_bd _ _, rfl⟩, ⟨_, smallV_bd _ _, rfl⟩⟩
theorem sm.lt {u : Nat} (h : sm u) : u < 18446744073709551616 := by obtain ⟨n, hn, rfl⟩ := h; exact fI_lt hn
theorem mdA_sm (k s : Int) : sm (mdA k s) := by
  unfold mdA; split
  · exact ⟨_, smallV_bd _ _, rfl⟩
  · exact sm_zero
theorem lens_bd {L : Ly} {s : Sh} (h : (outV L s).2 = 0) : 0 ≤ (lensV L s).1 ∧ (0 ≤ (lensV L s).2.1 ∧ (lensV L s).2.1 ≤ 256) ∧ 0 ≤ (lensV L s).2.2.1 ∧ (0 ≤ (lensV L s).2.2.2 ∧ (lensV L s).2.2.2 ≤ 256) := by
  obtain ⟨hf, hs, _, _, _⟩ := outV_zero h
  obtain ⟨_, _, hfo⟩ := fv_zero hf
  have hg := sz_good hs
  have ho := fld_out hfo
  have m0 : 0 ≤ L.out * (s.c * s.h * s.w) := Int.mul_nonneg ho.1 (by omega)
  unfold lensV
  split
  · simp only; omega
  split
  · rename_i _ h2
    have hw := fld_win hfo (.inl h2)
    have m1 : 0 ≤ L.out * s.c := Int.mul_nonneg ho.1 (by omega)
    have m2 : 0 ≤ L.out * s.c * L.kh := Int.mul_nonneg m1 (by omega)
    have m3 : 0 ≤ L.out * s.c * L.kh * L.kw := Int.mul_nonneg m2 (by omega)
    simp only; omega
  split
  · simp only; omega
  split
  · simp only; omega
  · simp only; omega
theorem LyD.below {w w' : World} {ok : Nat → Prop} {L : Ly} {lw lb : List Nat} {lz lzb : List (Nat × Nat)} (h : LyD w ok L lw lb lz lzb) (hb : Below w.heap.size w w') : LyD w' ok L lw lb lz lzb :=
  ⟨h.rW.below hb, h.nW, h.cW, h.rB.below hb, h.nB, h.cB, h.rZ.below hb, h.nZ, h.cZ, h.rZB.below hb, h.nZB, h.cZB, h.fz, h.lW, h.lB, h.lZ, h.lZB⟩
theorem mdL_ok {k out kh kw sh sw ph pw : Int} {a : Nat} {W B Z ZB : Sv} (h : i64 k ∧ i64 out ∧ i64 kh ∧ i64 kw ∧ i64 sh ∧ i64 sw ∧ i64 ph ∧ i64 pw) (ha : a < 18446744073709551616) : (mdL k out kh kw sh sw ph pw a W B Z ZB).ok :=
  ⟨h.1, h.2.1, h.2.2.1, h.2.2.2.1, h.2.2.2.2.1, h.2.2.2.2.2.1, h.2.2.2.2.2.2.1, h.2.2.2.2.2.2.2, show i64 0 by decide, ha⟩
theorem rdE_len {α : Type} {enc : α → Value} {w : World} {ok : Nat → Prop} {A : Option Addr} {n : Nat} {l : List α} (h : Rd w ok A n 1 (l.map enc)) (hl : l.length = n) : RdE w ok enc A l := by subst hl; exact h
/-- What made tells. -/
structure MdOut (w : World) (K : Nat → Prop) (L : Ly) (s : Sh) (seed : Int) : Prop where
  out : (outV L s).2 = 0
  rd : LyD w K L (mdW seed (lensV L s).1.toNat) (mdB seed (lensV L s).2.1.toNat) (mdZ seed (lensV L s).2.2.1.toNat) (mdY seed (lensV L s).2.2.2.toNat)
theorem MdOut.mx {w : World} {K : Nat → Prop} {L : Ly} {s : Sh} {seed : Int} (h : MdOut w K L s seed) (hl : L.k ≠ 5 ∧ L.k ≤ 6) (ha : sm L.a) : MxOk L (mdW seed (lensV L s).1.toNat) (mdB seed (lensV L s).2.1.toNat) (mdZ seed (lensV L s).2.2.1.toNat) (mdY seed (lensV L s).2.2.2.toNat) s := by
  have hb := lens_bd h.out
  exact ⟨h.out, hl, by rw [mdW_len]; omega, by rw [mdB_len]; omega, by rw [mdZ_len]; omega, by rw [mdY_len]; omega, mdW_sm _ _, mdB_sm _ _, mdZ_sm _ _, mdY_sm _ _, ha⟩
theorem LyD.keep {w w0 : World} {B : Nat} {L0 : List It} (hS : St B w0 w L0) {i : Nat} {ok : Nat → Prop} {wk : World} (hi : L0[i]? = some (.keep ok wk)) {L : Ly} {lw lb : List Nat} {lz lzb : List (Nat × Nat)} (h : LyD wk ok L lw lb lz lzb) : LyD w All L lw lb lz lzb :=
  ⟨Rd.weaken (hS.keepRd hi h.rW) fun _ _ => trivial, h.nW, h.cW, Rd.weaken (hS.keepRd hi h.rB) fun _ _ => trivial, h.nB, h.cB, Rd.weaken (hS.keepRd hi h.rZ) fun _ _ => trivial, h.nZ, h.cZ, Rd.weaken (hS.keepRd hi h.rZB) fun _ _ => trivial, h.nZB, h.cZB, h.fz, h.lW, h.lB, h.lZ, h.lZB⟩
@[reducible] def z4 : Sv := (none, 0, 0)
set_option maxHeartbeats 8000000 in
set_option maxRecDepth 100000 in
theorem made_calls (k out kh kw sh sw ph pw seed : Int) (s : Sh) (w : World) (hi : i64 k ∧ i64 out ∧ i64 kh ∧ i64 kw ∧ i64 sh ∧ i64 sw ∧ i64 ph ∧ i64 pw) (hs : s.ok) (a : Nat) (hA : a = mdA k seed) :
    Calls Try.prog 10 ⟨[.agg ⟨whC k out kh kw sh sw ph pw seed⟩, .agg ⟨shC s⟩]⟩ w fun e w' => ∃ W B Z ZB b K, e = .returned (.tuple #[.agg ⟨lyC (mdL k out kh kw sh sw ph pw a W B Z ZB)⟩, .bool b]) ∧ St w.heap.size w w' [.keep K w'] ∧
      (b = true → MdOut w' K (mdL k out kh kw sh sw ph pw a W B Z ZB) s seed) ∧
      ((outV (mdL k out kh kw sh sw ph pw a W B Z ZB) s).2 = 0 → (lensV (mdL k out kh kw sh sw ph pw a W B Z ZB) s).1 ≤ 70000 → (lensV (mdL k out kh kw sh sw ph pw a W B Z ZB) s).2.2.1 ≤ 70000 → b = true) := by
  have ha64 : a < 18446744073709551616 := by rw [hA]; exact (mdA_sm k seed).lt
  have hL : (mdL k out kh kw sh sw ph pw a z4 z4 z4 z4).ok := mdL_ok hi ha64
  have h8 : (mdL k out kh kw sh sw ph pw a z4 z4 z4 z4).k = 8 → (mdL k out kh kw sh sw ph pw a z4 z4 z4 z4).a = 0 := fun h => by
    have h : k = 8 := h
    show a = 0
    rw [hA]; unfold mdA; exact if_neg (by omega)
  have hsm7 := smallV_bd seed 7
  refine gc_enter (N := 143) Try.func10 rfl rfl rfl [(0, _), (1, _)] rfl ?_
  have hS := St.start w
  refine gc_seq fun K1 hK1 => ?_
  refine gc_region ?_
  refine gl_box hS rfl rfl rfl rfl rfl fun g2 w2 hS => ?_
  refine gl_box hS rfl rfl rfl rfl rfl fun g3 w3 hS => ?_
  refine gl_alloc el32 hS rfl rfl rfl rfl fun g4 w4 hS => ?_
  refine gl_op rfl rfl rfl (op_pure hT rfl) ?_
  refine gl_nil ?_
  refine hK1 _ _ ?_
  clear hK1; try clear K1
  refine gc_seq fun K2 hK2 => ?_
  refine gc_region ?_
  refine gl_op rfl rfl rfl (op_fieldB 0 rfl Try.underlying25 rfl el3 rfl rfl) ?_
  refine gl_op rfl rfl rfl (op_loadB 0 hT hS rfl rfl rfl rfl rfl rfl) ?_
  refine gl_op rfl rfl rfl (op_fieldB 1 rfl Try.underlying25 rfl el3 rfl rfl) ?_
  refine gl_op rfl rfl rfl (op_loadB 0 hT hS rfl rfl rfl rfl rfl rfl) ?_
  refine gl_op rfl rfl rfl (op_fieldB 2 rfl Try.underlying25 rfl el3 rfl rfl) ?_
  refine gl_op rfl rfl rfl (op_loadB 0 hT hS rfl rfl rfl rfl rfl rfl) ?_
  refine gl_op rfl rfl rfl (op_fieldB 3 rfl Try.underlying25 rfl el3 rfl rfl) ?_
  refine gl_op rfl rfl rfl (op_loadB 0 hT hS rfl rfl rfl rfl rfl rfl) ?_
  refine gl_op rfl rfl rfl (op_fieldB 4 rfl Try.underlying25 rfl el3 rfl rfl) ?_
  refine gl_op rfl rfl rfl (op_loadB 0 hT hS rfl rfl rfl rfl rfl rfl) ?_
  refine gl_op rfl rfl rfl (op_fieldB 5 rfl Try.underlying25 rfl el3 rfl rfl) ?_
  refine gl_op rfl rfl rfl (op_loadB 0 hT hS rfl rfl rfl rfl rfl rfl) ?_
  refine gl_op rfl rfl rfl (op_fieldB 6 rfl Try.underlying25 rfl el3 rfl rfl) ?_
  refine gl_op rfl rfl rfl (op_loadB 0 hT hS rfl rfl rfl rfl rfl rfl) ?_
  refine gl_op rfl rfl rfl (op_fieldB 7 rfl Try.underlying25 rfl el3 rfl rfl) ?_
  refine gl_op rfl rfl rfl (op_loadB 0 hT hS rfl rfl rfl rfl rfl rfl) ?_
  refine gl_op rfl rfl rfl (op_buildG rfl plan32 rfl rfl) ?_
  refine gl_alloc el32 hS rfl rfl rfl rfl fun g6 w6 hS => ?_
  refine gl_storeM 3 hS el32 rfl rfl rfl rfl rfl rfl rfl rfl rfl fun wlaw_go_155 hS => ?_
  refine gl_nil ?_
  refine hK2 _ _ ?_
  clear hK2; try clear K2
  refine gc_cut (fun a' w' => Fr 143 a' [(2, .pointer (some ⟨g2, 0, none⟩)), (3, .pointer (some ⟨g3, 0, none⟩)), (4, .pointer (some ⟨g4, 0, none⟩)), (6, .pointer (some ⟨g6, 0, none⟩))] ∧ St w.heap.size w w' [.blk g2 25 (whC k out kh kw sh sw ph pw seed), .blk g3 27 (shC s), .blk g4 32 (lyC (mdL 0 0 0 0 0 0 0 0 0 z4 z4 z4 z4)), .blk g6 32 (lyC (mdL k out kh kw sh sw ph pw a z4 z4 z4 z4))]) ?_ ?_
  · skip
    refine gc_seq fun K3 hK3 => ?_
    refine gc_region ?_
    refine gl_op rfl rfl rfl (op_fieldB 0 rfl Try.underlying25 rfl el3 rfl rfl) ?_
    refine gl_op rfl rfl rfl (op_loadB 0 hT hS rfl rfl rfl rfl rfl rfl) ?_
    refine gl_op rfl rfl rfl (op_pure hT rfl) ?_
    refine gl_nil ?_
    refine hK3 _ _ ?_
    clear hK3; try clear K3
    refine gc_cond rfl rfl (fun c32 => ?_) (fun c32 => ?_)
    · try simp only [decide_eq_true_eq, decide_eq_false_iff_not, Bool.not_eq_true', Bool.not_eq_false', Int.not_lt, Int.not_le, Nat.not_lt, Nat.not_le, Bool.true_eq, Bool.false_eq, reduceCtorEq] at c32
      refine gc_region ?_
      refine gl_op rfl rfl rfl (op_fieldB 8 rfl Try.underlying25 rfl el3 rfl rfl) ?_
      refine gl_op rfl rfl rfl (op_loadB 0 hT hS rfl rfl rfl rfl rfl rfl) ?_
      refine gl_callf rfl rfl rfl rfl Try.func18 rfl rfl rfl (small_calls seed 7 _) ?_
      rintro _ _ ⟨rfl, n35, rfl⟩
      refine ⟨_, rfl, ?_⟩
      have hS := hS.dr n35
      refine gl_op rfl rfl rfl (op_i2f hT rfl rfl rfl rfl) ?_
      refine gl_op rfl rfl rfl (op_fieldB 9 rfl Try.underlying32 rfl el28 rfl rfl) ?_
      refine gl_store 3 hS el28.cellsOf.1 el28.cellsOf.2 rfl rfl rfl rfl rfl rfl rfl rfl fun wlaw_go_157 hS => ?_
      refine gl_nil ?_
      intro a' ha
      first
        | (have e1 : a = fI (smallV seed 7) := by rw [hA]; exact if_pos c32
           rw [e1]
           exact ⟨ha.sub ⟨rfl, rfl, rfl, rfl, trivial⟩, hS⟩)
        | (have e1 : a = 0 := by rw [hA]; exact if_neg c32
           rw [e1]
           exact ⟨ha.sub ⟨rfl, rfl, rfl, rfl, trivial⟩, hS⟩)
    · try simp only [decide_eq_true_eq, decide_eq_false_iff_not, Bool.not_eq_true', Bool.not_eq_false', Int.not_lt, Int.not_le, Nat.not_lt, Nat.not_le, Bool.true_eq, Bool.false_eq, reduceCtorEq] at c32
      refine gc_skip ?_
      intro a' ha
      first
        | (have e1 : a = fI (smallV seed 7) := by rw [hA]; exact if_pos c32
           rw [e1]
           exact ⟨ha.sub ⟨rfl, rfl, rfl, rfl, trivial⟩, hS⟩)
        | (have e1 : a = 0 := by rw [hA]; exact if_neg c32
           rw [e1]
           exact ⟨ha.sub ⟨rfl, rfl, rfl, rfl, trivial⟩, hS⟩)
  rintro a' w1 ⟨hF, hS⟩
  refine gc_of hF ?_
  clear hF
  have hlsO : (outV (mdL k out kh kw sh sw ph pw a z4 z4 z4 z4) s).2 = 0 → listsV (mdL k out kh kw sh sw ph pw a z4 z4 z4 z4) s = (lensV (mdL k out kh kw sh sw ph pw a z4 z4 z4 z4) s, 0) := fun h => by unfold listsV; rw [if_neg (by rw [h]; simp)]
  refine gc_cut (fun a' w' => ∃ g7, Fr 143 a' [(2, .pointer (some ⟨g2, 0, none⟩)), (3, .pointer (some ⟨g3, 0, none⟩)), (4, .pointer (some ⟨g4, 0, none⟩)), (6, .pointer (some ⟨g6, 0, none⟩)), (7, .pointer (some ⟨g7, 0, none⟩)), (8, .int .i64 (listsV (mdL k out kh kw sh sw ph pw a z4 z4 z4 z4) s).2)] ∧ St w.heap.size w w' [.blk g2 25 (whC k out kh kw sh sw ph pw seed), .blk g3 27 (shC s), .blk g4 32 (lyC (mdL 0 0 0 0 0 0 0 0 0 z4 z4 z4 z4)), .blk g6 32 (lyC (mdL k out kh kw sh sw ph pw a z4 z4 z4 z4)), .blk g7 53 (l4C (listsV (mdL k out kh kw sh sw ph pw a z4 z4 z4 z4) s).1)]) ?_ ?_
  · skip
    refine gc_anyS hS (by kernel_rfl) rfl fun nq4 hK => ?_
    have hS := hS.dr nq4
    refine ga_take 0 rfl rfl rfl rfl (by kernel_rfl) (fun _ _ _ _ _ h => h) hK (fun w1 hS => op_loadG 3 Try.underlying32 rfl el32 hS rfl rfl rfl rfl rfl) ?_
    refine ga_take 2 rfl rfl rfl rfl (by kernel_rfl) (fun _ _ _ _ _ h => h) hK (fun w1 hS => op_loadG 1 Try.underlying27 rfl el27 hS rfl rfl rfl rfl rfl) ?_
    refine ga_two 1 7 (by kernel_rfl) rfl rfl ?_ ?_
    · skip
      refine gl_callf rfl rfl rfl rfl Try.func22 rfl rfl rfl (ofLayer0_calls (mdL k out kh kw sh sw ph pw a z4 z4 z4 z4) _) ?_
      rintro _ w40 ⟨rfl, hb40⟩
      refine ⟨_, rfl, ?_⟩
      have hS := hS.grown hb40
      refine gl_nil ?_
      refine ga_next (hS.pre 4) fun hK => ?_
      refine ga_two 3 7 (by kernel_rfl) rfl rfl ?_ ?_
      · skip
        refine gl_callf rfl rfl rfl rfl Try.func21 rfl rfl rfl (fLists_calls (mdL k out kh kw sh sw ph pw a z4 z4 z4 z4) s _ hL hs h8) ?_
        rintro _ w42 ⟨rfl, hb42⟩
        refine ⟨_, rfl, ?_⟩
        have hS := hS.grown hb42
        refine gl_nil ?_
        refine ga_next (hS.pre 4) fun hK => ?_
        refine ga_take 4 rfl rfl rfl rfl (by kernel_rfl) (fun _ _ _ _ _ h => h) hK (fun w1 hS => op_pure hT rfl) ?_
        refine ga_take 5 rfl rfl rfl rfl (by kernel_rfl) (fun _ _ _ _ _ h => h) hK (fun w1 hS => op_pure hT rfl) ?_
        refine ga_take 6 rfl rfl rfl rfl (by kernel_rfl) (fun _ _ _ _ _ h => h) hK (fun w1 hS => op_pure hT rfl) ?_
        refine ga_one 7 (by kernel_rfl) rfl ?_
        refine gl_alloc el53 hS rfl rfl rfl rfl fun g7 w7 hS => ?_
        refine gl_nil ?_
        refine ga_next (hS.pre 4) fun hK => ?_
        refine ga_one 8 (by kernel_rfl) rfl ?_
        refine gl_storeM 4 hS el53 rfl rfl rfl rfl rfl rfl rfl rfl rfl fun wlaw_go_159 hS => ?_
        refine gl_nil ?_
        refine ga_next (hS.pre 4) fun hK => ?_
        refine ga_take 9 rfl rfl rfl rfl (by kernel_rfl) (fun _ _ _ _ _ h => h) hK (fun w1 hS => op_pure hT rfl) ?_
        refine ga_done (by kernel_rfl) ?_
        intro a' ha
        exact ⟨_, ha.sub ⟨rfl, rfl, rfl, rfl, rfl, rfl, trivial⟩, hS⟩
      · skip
        refine gl_alloc el53 hS rfl rfl rfl rfl fun g7 w7 hS => ?_
        refine gl_nil ?_
        refine ga_next (hS.pre 4) fun hK => ?_
        refine ga_one 3 (by kernel_rfl) rfl ?_
        refine gl_callf rfl rfl rfl rfl Try.func21 rfl rfl rfl (fLists_calls (mdL k out kh kw sh sw ph pw a z4 z4 z4 z4) s _ hL hs h8) ?_
        rintro _ w42 ⟨rfl, hb42⟩
        refine ⟨_, rfl, ?_⟩
        have hS := hS.grown hb42
        refine gl_nil ?_
        refine ga_next (hS.pre 4) fun hK => ?_
        refine ga_take 4 rfl rfl rfl rfl (by kernel_rfl) (fun _ _ _ _ _ h => h) hK (fun w1 hS => op_pure hT rfl) ?_
        refine ga_take 5 rfl rfl rfl rfl (by kernel_rfl) (fun _ _ _ _ _ h => h) hK (fun w1 hS => op_pure hT rfl) ?_
        refine ga_take 6 rfl rfl rfl rfl (by kernel_rfl) (fun _ _ _ _ _ h => h) hK (fun w1 hS => op_pure hT rfl) ?_
        refine ga_one 8 (by kernel_rfl) rfl ?_
        refine gl_storeM 4 hS el53 rfl rfl rfl rfl rfl rfl rfl rfl rfl fun wlaw_go_159 hS => ?_
        refine gl_nil ?_
        refine ga_next (hS.pre 4) fun hK => ?_
        refine ga_take 9 rfl rfl rfl rfl (by kernel_rfl) (fun _ _ _ _ _ h => h) hK (fun w1 hS => op_pure hT rfl) ?_
        refine ga_done (by kernel_rfl) ?_
        intro a' ha
        exact ⟨_, ha.sub ⟨rfl, rfl, rfl, rfl, rfl, rfl, trivial⟩, hS⟩
    · skip
      refine gl_alloc el53 hS rfl rfl rfl rfl fun g7 w7 hS => ?_
      refine gl_nil ?_
      refine ga_next (hS.pre 4) fun hK => ?_
      refine ga_one 1 (by kernel_rfl) rfl ?_
      refine gl_callf rfl rfl rfl rfl Try.func22 rfl rfl rfl (ofLayer0_calls (mdL k out kh kw sh sw ph pw a z4 z4 z4 z4) _) ?_
      rintro _ w40 ⟨rfl, hb40⟩
      refine ⟨_, rfl, ?_⟩
      have hS := hS.grown hb40
      refine gl_nil ?_
      refine ga_next (hS.pre 4) fun hK => ?_
      refine ga_one 3 (by kernel_rfl) rfl ?_
      refine gl_callf rfl rfl rfl rfl Try.func21 rfl rfl rfl (fLists_calls (mdL k out kh kw sh sw ph pw a z4 z4 z4 z4) s _ hL hs h8) ?_
      rintro _ w42 ⟨rfl, hb42⟩
      refine ⟨_, rfl, ?_⟩
      have hS := hS.grown hb42
      refine gl_nil ?_
      refine ga_next (hS.pre 4) fun hK => ?_
      refine ga_take 4 rfl rfl rfl rfl (by kernel_rfl) (fun _ _ _ _ _ h => h) hK (fun w1 hS => op_pure hT rfl) ?_
      refine ga_take 5 rfl rfl rfl rfl (by kernel_rfl) (fun _ _ _ _ _ h => h) hK (fun w1 hS => op_pure hT rfl) ?_
      refine ga_take 6 rfl rfl rfl rfl (by kernel_rfl) (fun _ _ _ _ _ h => h) hK (fun w1 hS => op_pure hT rfl) ?_
      refine ga_one 8 (by kernel_rfl) rfl ?_
      refine gl_storeM 4 hS el53 rfl rfl rfl rfl rfl rfl rfl rfl rfl fun wlaw_go_159 hS => ?_
      refine gl_nil ?_
      refine ga_next (hS.pre 4) fun hK => ?_
      refine ga_take 9 rfl rfl rfl rfl (by kernel_rfl) (fun _ _ _ _ _ h => h) hK (fun w1 hS => op_pure hT rfl) ?_
      refine ga_done (by kernel_rfl) ?_
      intro a' ha
      exact ⟨_, ha.sub ⟨rfl, rfl, rfl, rfl, rfl, rfl, trivial⟩, hS⟩
  rintro a' w1 ⟨g7, hF, hS⟩
  refine gc_of hF ?_
  clear hF
  refine gc_seq fun K4 hK4 => ?_
  refine gc_seq fun K5 hK5 => ?_
  refine gc_region ?_
  refine gl_op rfl rfl rfl (op_pure hT rfl) ?_
  refine gl_op rfl rfl rfl (op_pure hT rfl) ?_
  refine gl_op rfl rfl rfl (op_pure hT rfl) ?_
  refine gl_split (t := 47) rfl (fun c47 => ?_) (fun c47 => ?_)
  · try simp only [decide_eq_true_eq, decide_eq_false_iff_not, Bool.not_eq_true', Bool.not_eq_false', Int.not_lt, Int.not_le, Nat.not_lt, Nat.not_le, Bool.true_eq, Bool.false_eq, reduceCtorEq] at c47
    refine gl_pass rfl rfl rfl rfl rfl rfl ?_
    refine gl_pass rfl rfl rfl rfl rfl rfl ?_
    refine gl_pass rfl rfl rfl rfl rfl rfl ?_
    refine gl_op rfl rfl rfl (op_pure hT rfl) ?_
    refine gl_op rfl rfl rfl (op_pure hT rfl) ?_
    refine gl_pass rfl rfl rfl rfl rfl rfl ?_
    refine gl_pass rfl rfl rfl rfl rfl rfl ?_
    refine gl_pass rfl rfl rfl rfl rfl rfl ?_
    refine gl_op rfl rfl rfl (op_pure hT rfl) ?_
    refine gl_nil ?_
    refine hK5 _ _ ?_
    clear hK5; try clear K5
    refine gc_cond_t rfl ?_
    refine gc_seq fun K6 hK6 => ?_
    refine gc_region ?_
    refine gl_op rfl rfl rfl (op_loadG 3 Try.underlying32 rfl el32 hS rfl rfl rfl rfl rfl) ?_
    refine gl_storeM 2 hS el32 rfl rfl rfl rfl rfl rfl rfl rfl rfl fun wlaw_go_161 hS => ?_
    refine gl_op rfl rfl rfl (op_pure hT rfl) ?_
    refine gl_nil ?_
    refine hK6 _ _ ?_
    clear hK6; try clear K6
    refine gc_ret ?_
    try simp only [x_then_ret, x_block_ret]
    refine gk_res2 rfl (⟨_, rfl, run_loadVarB 2 Try.underlying32 rfl el32 hS rfl rfl rfl⟩) (rfl) ?_
    exact ⟨z4, z4, z4, z4, false, _, rfl, (hS.sub (List.nil_sublist _)).keep0, (fun h => by cases h), fun h1 _ _ => absurd (show (listsV (mdL k out kh kw sh sw ph pw a z4 z4 z4 z4) s).2 = 0 by rw [hlsO h1]) c47⟩
  · try simp only [decide_eq_true_eq, decide_eq_false_iff_not, Bool.not_eq_true', Bool.not_eq_false', Int.not_lt, Int.not_le, Nat.not_lt, Nat.not_le, Bool.true_eq, Bool.false_eq, reduceCtorEq] at c47
    refine gl_un rfl rfl rfl rfl ?_
    refine gl_op rfl rfl rfl (op_ixA (j := 0) rfl Try.underlying53 el3 rfl rfl (by decide) (by decide) rfl) ?_
    refine gl_un rfl rfl rfl rfl ?_
    refine gl_op rfl rfl rfl (op_loadB 4 hT hS rfl rfl rfl rfl rfl rfl) ?_
    refine gl_un rfl rfl rfl rfl ?_
    refine gl_op rfl rfl rfl (op_pure hT rfl) ?_
    refine gl_op rfl rfl rfl (op_pure hT rfl) ?_
    refine gl_op rfl rfl rfl (op_pure hT rfl) ?_
    refine gl_split (t := 52) rfl (fun c52 => ?_) (fun c52 => ?_)
    · try simp only [decide_eq_true_eq, decide_eq_false_iff_not, Bool.not_eq_true', Bool.not_eq_false', Int.not_lt, Int.not_le, Nat.not_lt, Nat.not_le, Bool.true_eq, Bool.false_eq, reduceCtorEq] at c52
      refine gl_pass rfl rfl rfl rfl rfl rfl ?_
      refine gl_pass rfl rfl rfl rfl rfl rfl ?_
      refine gl_pass rfl rfl rfl rfl rfl rfl ?_
      refine gl_op rfl rfl rfl (op_pure hT rfl) ?_
      refine gl_nil ?_
      refine hK5 _ _ ?_
      clear hK5; try clear K5
      refine gc_cond_t rfl ?_
      refine gc_seq fun K7 hK7 => ?_
      refine gc_region ?_
      refine gl_op rfl rfl rfl (op_loadG 3 Try.underlying32 rfl el32 hS rfl rfl rfl rfl rfl) ?_
      refine gl_storeM 2 hS el32 rfl rfl rfl rfl rfl rfl rfl rfl rfl fun wlaw_go_161 hS => ?_
      refine gl_op rfl rfl rfl (op_pure hT rfl) ?_
      refine gl_nil ?_
      refine hK7 _ _ ?_
      clear hK7; try clear K7
      refine gc_ret ?_
      try simp only [x_then_ret, x_block_ret]
      refine gk_res2 rfl (⟨_, rfl, run_loadVarB 2 Try.underlying32 rfl el32 hS rfl rfl rfl⟩) (rfl) ?_
      exact ⟨z4, z4, z4, z4, false, _, rfl, (hS.sub (List.nil_sublist _)).keep0, (fun h => by cases h), fun h1 h2 _ => absurd (show (listsV (mdL k out kh kw sh sw ph pw a z4 z4 z4 z4) s).1.1 ≤ 70000 by rw [hlsO h1]; exact h2) (by omega)⟩
    · try simp only [decide_eq_true_eq, decide_eq_false_iff_not, Bool.not_eq_true', Bool.not_eq_false', Int.not_lt, Int.not_le, Nat.not_lt, Nat.not_le, Bool.true_eq, Bool.false_eq, reduceCtorEq] at c52
      refine gl_un rfl rfl rfl rfl ?_
      refine gl_op rfl rfl rfl (op_ixA (j := 2) rfl Try.underlying53 el3 rfl rfl (by decide) (by decide) rfl) ?_
      refine gl_un rfl rfl rfl rfl ?_
      refine gl_op rfl rfl rfl (op_loadB 4 hT hS rfl rfl rfl rfl rfl rfl) ?_
      refine gl_un rfl rfl rfl rfl ?_
      refine gl_op rfl rfl rfl (op_pure hT rfl) ?_
      refine gl_op rfl rfl rfl (op_pure hT rfl) ?_
      refine gl_nil ?_
      refine hK5 _ _ ?_
      clear hK5; try clear K5
      refine gc_cond rfl rfl (fun c56 => ?_) (fun c56 => ?_)
      · try simp only [decide_eq_true_eq, decide_eq_false_iff_not, Bool.not_eq_true', Bool.not_eq_false', Int.not_lt, Int.not_le, Nat.not_lt, Nat.not_le, Bool.true_eq, Bool.false_eq, reduceCtorEq] at c56
        refine gc_seq fun K8 hK8 => ?_
        refine gc_region ?_
        refine gl_op rfl rfl rfl (op_loadG 3 Try.underlying32 rfl el32 hS rfl rfl rfl rfl rfl) ?_
        refine gl_storeM 2 hS el32 rfl rfl rfl rfl rfl rfl rfl rfl rfl fun wlaw_go_161 hS => ?_
        refine gl_op rfl rfl rfl (op_pure hT rfl) ?_
        refine gl_nil ?_
        refine hK8 _ _ ?_
        clear hK8; try clear K8
        refine gc_ret ?_
        try simp only [x_then_ret, x_block_ret]
        refine gk_res2 rfl (⟨_, rfl, run_loadVarB 2 Try.underlying32 rfl el32 hS rfl rfl rfl⟩) (rfl) ?_
        exact ⟨z4, z4, z4, z4, false, _, rfl, (hS.sub (List.nil_sublist _)).keep0, (fun h => by cases h), fun h1 _ h3 => absurd (show (listsV (mdL k out kh kw sh sw ph pw a z4 z4 z4 z4) s).1.2.2.1 ≤ 70000 by rw [hlsO h1]; exact h3) (by omega)⟩
      · try simp only [decide_eq_true_eq, decide_eq_false_iff_not, Bool.not_eq_true', Bool.not_eq_false', Int.not_lt, Int.not_le, Nat.not_lt, Nat.not_le, Bool.true_eq, Bool.false_eq, reduceCtorEq] at c56
        refine gc_skip ?_
        refine hK4 _ _ ?_
        clear hK4; try clear K4
        refine gc_seq fun K9 hK9 => ?_
        refine gc_seq fun K10 hK10 => ?_
        refine gc_region ?_
        refine gl_op rfl rfl rfl (op_pure hT rfl) ?_
        refine gl_nil ?_
        refine hK10 _ _ ?_
        clear hK10; try clear K10
        refine gc_block ?_
        have ho : (outV (mdL k out kh kw sh sw ph pw a z4 z4 z4 z4) s).2 = 0 := by
          by_cases hne : (outV (mdL k out kh kw sh sw ph pw a z4 z4 z4 z4) s).2 ≠ 0
          · exfalso; apply hne; have h := c47; unfold listsV at h; rw [if_pos hne] at h; exact h
          · simpa using hne
        have hls := hlsO ho
        have hlb := lens_bd ho
        rw [hls] at c52 c56
        obtain ⟨K0, hK0⟩ : ∃ K : Nat, (lensV (mdL k out kh kw sh sw ph pw a z4 z4 z4 z4) s).1 = (K : Int) := ⟨_, (Int.toNat_of_nonneg hlb.1).symm⟩
        obtain ⟨K1, hK1⟩ : ∃ K : Nat, (lensV (mdL k out kh kw sh sw ph pw a z4 z4 z4 z4) s).2.1 = (K : Int) := ⟨_, (Int.toNat_of_nonneg hlb.2.1.1).symm⟩
        obtain ⟨K2, hK2⟩ : ∃ K : Nat, (lensV (mdL k out kh kw sh sw ph pw a z4 z4 z4 z4) s).2.2.1 = (K : Int) := ⟨_, (Int.toNat_of_nonneg hlb.2.2.1).symm⟩
        obtain ⟨K3, hK3⟩ : ∃ K : Nat, (lensV (mdL k out kh kw sh sw ph pw a z4 z4 z4 z4) s).2.2.2 = (K : Int) := ⟨_, (Int.toNat_of_nonneg hlb.2.2.2.1).symm⟩
        have hS : St w.heap.size w _ [.blk g2 25 (whC k out kh kw sh sw ph pw seed), .blk g3 27 (shC s), .blk g4 32 (lyC (mdL 0 0 0 0 0 0 0 0 0 z4 z4 z4 z4)), .blk g6 32 (lyC (mdL k out kh kw sh sw ph pw a z4 z4 z4 z4)), .blk g7 53 (l4C (listsV (mdL k out kh kw sh sw ph pw a z4 z4 z4 z4) s).1)] := hS
        rw [hls] at hS
        unfold l4C at hS
        simp only [hK0, hK1, hK2, hK3] at hS c52 c56 hlb
        have hS := hS.nil 28 1
        refine gc_loop (fun kk a' w' => ∃ (J0 : Nat) (Ax0 : Option Addr) (cc0 : Nat), Fr 143 a' [(2, .pointer (some ⟨g2, 0, none⟩)), (3, .pointer (some ⟨g3, 0, none⟩)), (4, .pointer (some ⟨g4, 0, none⟩)), (6, .pointer (some ⟨g6, 0, none⟩)), (7, .pointer (some ⟨g7, 0, none⟩)), (9, .int .i64 (J0 : Nat))] ∧ J0 ≤ K0 ∧ kk = K0 + 1 - J0 ∧ St w.heap.size w w' [.blk g2 25 (whC k out kh kw sh sw ph pw seed), .blk g3 27 (shC s), .blk g4 32 (lyC (mdL 0 0 0 0 0 0 0 0 0 z4 z4 z4 z4)), .blk g6 32 (lyC (mdL k out kh kw sh sw ph pw a (Ax0, J0, cc0) z4 z4 z4)), .blk g7 53 [.int .i64 (K0 : Nat), .int .i64 (K1 : Nat), .int .i64 (K2 : Nat), .int .i64 (K3 : Nat)], .row Ax0 cc0 28 1 J0 ((mdW seed J0).map fV)]) (K0 + 1) ?_ ?_ ?_
        · intro a' ha; exact ⟨0, none, 0, ha.sub ⟨rfl, rfl, rfl, rfl, rfl, rfl, trivial⟩, by omega, by omega, hS⟩
        · rintro a' w' ⟨j, _, _, _, h1, h2, _⟩; omega
        rintro kk a' w1 ⟨J0, Ax0, cc0, hF, hj, hk, hS⟩
        refine gc_of hF ?_
        clear hF
        refine gc_seq fun K11 hK11 => ?_
        refine gc_seq fun K12 hK12 => ?_
        refine gc_region ?_
        refine gl_op rfl rfl rfl (op_pure hT rfl) ?_
        refine gl_op rfl rfl rfl (op_ixA (j := 0) rfl Try.underlying53 el3 rfl rfl (by decide) (by decide) rfl) ?_
        refine gl_op rfl rfl rfl (op_loadB 4 hT hS rfl rfl rfl rfl rfl rfl) ?_
        refine gl_op rfl rfl rfl (op_pure hT rfl) ?_
        refine gl_nil ?_
        refine hK12 _ _ ?_
        clear hK12; try clear K12
        refine gc_cond rfl rfl (fun c61 => ?_) (fun c61 => ?_)
        · try simp only [decide_eq_true_eq, decide_eq_false_iff_not, Bool.not_eq_true', Bool.not_eq_false', Int.not_lt, Int.not_le, Nat.not_lt, Nat.not_le, Bool.true_eq, Bool.false_eq, reduceCtorEq] at c61
          refine gc_skip ?_
          refine hK11 _ _ ?_
          clear hK11; try clear K11
          refine gc_seq fun K13 hK13 => ?_
          refine gc_block ?_
          refine gc_anyS ((hS.blank 3).blank 5) (by kernel_rfl) rfl fun nq10 hK => ?_
          have hS := hS.dr nq10
          refine ga_take 0 rfl rfl rfl rfl (by kernel_rfl) (fun _ _ _ _ _ h => h) hK (fun w1 hS => op_fieldB 10 rfl Try.underlying32 rfl el29 rfl rfl) ?_
          refine ga_take 2 rfl rfl rfl rfl (by kernel_rfl) (fun _ _ _ _ _ h => h) hK (fun w1 hS => op_fieldB 8 rfl Try.underlying25 rfl el3 rfl rfl) ?_
          refine ga_take 3 rfl rfl rfl rfl (by kernel_rfl) (fun _ _ _ _ _ h => h) hK (fun w1 hS => op_loadB 0 hT hS rfl rfl rfl rfl rfl rfl) ?_
          refine ga_take 4 rfl rfl rfl rfl (by kernel_rfl) (fun _ _ _ _ _ h => h) hK (fun w1 hS => op_pure hT rfl) ?_
          refine ga_take 5 rfl rfl rfl rfl (by kernel_rfl) (fun _ _ _ _ _ h => h) hK (fun w1 hS => (by first | exact op_fit hT rfl (by omega) | exact op_pure hT rfl)) ?_
          refine ga_two 1 6 (by kernel_rfl) rfl rfl ?_ ?_
          · skip
            refine gl_op rfl rfl rfl (op_loadB 3 hT hS rfl rfl rfl rfl rfl rfl) ?_
            refine gl_nil ?_
            refine ga_next (((hS.blank 3).blank 5).pre 6) fun hK => ?_
            refine ga_one 6 (by kernel_rfl) rfl ?_
            refine gl_callf rfl rfl rfl rfl Try.func18 rfl rfl rfl (small_calls seed (3 * (J0 : Int)) _) ?_
            rintro _ _ ⟨rfl, n70, rfl⟩
            refine ⟨_, rfl, ?_⟩
            have hS := hS.dr n70
            refine gl_nil ?_
            refine ga_next (((hS.blank 3).blank 5).pre 6) fun hK => ?_
            refine ga_take 7 rfl rfl rfl rfl (by kernel_rfl) (fun _ _ _ _ _ h => h) hK (fun w1 hS => op_i2f hT rfl rfl rfl rfl) ?_
            refine ga_one 8 (by kernel_rfl) rfl ?_
            refine gl_lit hT hS el28 rfl rfl rfl rfl rfl rfl rfl rfl rfl fun g72 w72 hS => ?_
            refine gl_nil ?_
            refine ga_next (((hS.blank 3).blank 5).pre 6) fun hK => ?_
            refine ga_one 9 (by kernel_rfl) rfl ?_
            refine gl_append 5 hT hS el28 (hS.rd (i := 6) rfl) (rfl) rfl rfl rfl rfl rfl rfl rfl rfl (by first | omega | (simp; omega)) (by first | omega | (simp; omega)) fun A73 c73 w73 hS => ?_
            have hS := hS.erase 6
            refine gl_nil ?_
            refine ga_next (((hS.blank 3).blank 5).pre 6) fun hK => ?_
            refine ga_take 10 rfl rfl rfl rfl (by kernel_rfl) (fun _ _ _ _ _ h => h) hK (fun w1 hS => op_fieldB 10 rfl Try.underlying32 rfl el29 rfl rfl) ?_
            refine ga_one 11 (by kernel_rfl) rfl ?_
            refine gl_store 3 hS el29.cellsOf.1 el29.cellsOf.2 rfl rfl rfl rfl rfl rfl rfl rfl fun wlaw_go_164 hS => ?_
            refine gl_nil ?_
            refine ga_next (((hS.blank 3).blank 5).pre 6) fun hK => ?_
            refine ga_done (by kernel_rfl) ?_
            refine hK13 _ _ ?_
            clear hK13; try clear K13
            refine gc_region ?_
            refine gl_op rfl rfl rfl (op_pure hT rfl) ?_
            first | refine gl_fit hT rfl rfl rfl rfl (by omega) ?_ | refine gl_op rfl rfl rfl (op_pure hT rfl) ?_
            refine gl_op rfl rfl rfl (op_pure hT rfl) ?_
            refine gl_nil ?_
            intro a' ha
            refine ⟨J0 + 1, A73, c73, ha.sub ⟨rfl, rfl, rfl, rfl, rfl, rfl, trivial⟩, by omega, by omega, ?_⟩
            rw [mdW_succ, List.map_append]
            exact hS
          · skip
            refine gl_callf rfl rfl rfl rfl Try.func18 rfl rfl rfl (small_calls seed (3 * (J0 : Int)) _) ?_
            rintro _ _ ⟨rfl, n70, rfl⟩
            refine ⟨_, rfl, ?_⟩
            have hS := hS.dr n70
            refine gl_nil ?_
            refine ga_next (((hS.blank 3).blank 5).pre 6) fun hK => ?_
            refine ga_take 7 rfl rfl rfl rfl (by kernel_rfl) (fun _ _ _ _ _ h => h) hK (fun w1 hS => op_i2f hT rfl rfl rfl rfl) ?_
            refine ga_two 1 8 (by kernel_rfl) rfl rfl ?_ ?_
            · skip
              refine gl_op rfl rfl rfl (op_loadB 3 hT hS rfl rfl rfl rfl rfl rfl) ?_
              refine gl_nil ?_
              refine ga_next (((hS.blank 3).blank 5).pre 6) fun hK => ?_
              refine ga_one 8 (by kernel_rfl) rfl ?_
              refine gl_lit hT hS el28 rfl rfl rfl rfl rfl rfl rfl rfl rfl fun g72 w72 hS => ?_
              refine gl_nil ?_
              refine ga_next (((hS.blank 3).blank 5).pre 6) fun hK => ?_
              refine ga_one 9 (by kernel_rfl) rfl ?_
              refine gl_append 5 hT hS el28 (hS.rd (i := 6) rfl) (rfl) rfl rfl rfl rfl rfl rfl rfl rfl (by first | omega | (simp; omega)) (by first | omega | (simp; omega)) fun A73 c73 w73 hS => ?_
              have hS := hS.erase 6
              refine gl_nil ?_
              refine ga_next (((hS.blank 3).blank 5).pre 6) fun hK => ?_
              refine ga_take 10 rfl rfl rfl rfl (by kernel_rfl) (fun _ _ _ _ _ h => h) hK (fun w1 hS => op_fieldB 10 rfl Try.underlying32 rfl el29 rfl rfl) ?_
              refine ga_one 11 (by kernel_rfl) rfl ?_
              refine gl_store 3 hS el29.cellsOf.1 el29.cellsOf.2 rfl rfl rfl rfl rfl rfl rfl rfl fun wlaw_go_164 hS => ?_
              refine gl_nil ?_
              refine ga_next (((hS.blank 3).blank 5).pre 6) fun hK => ?_
              refine ga_done (by kernel_rfl) ?_
              refine hK13 _ _ ?_
              clear hK13; try clear K13
              refine gc_region ?_
              refine gl_op rfl rfl rfl (op_pure hT rfl) ?_
              first | refine gl_fit hT rfl rfl rfl rfl (by omega) ?_ | refine gl_op rfl rfl rfl (op_pure hT rfl) ?_
              refine gl_op rfl rfl rfl (op_pure hT rfl) ?_
              refine gl_nil ?_
              intro a' ha
              refine ⟨J0 + 1, A73, c73, ha.sub ⟨rfl, rfl, rfl, rfl, rfl, rfl, trivial⟩, by omega, by omega, ?_⟩
              rw [mdW_succ, List.map_append]
              exact hS
            · skip
              refine gl_lit hT hS el28 rfl rfl rfl rfl rfl rfl rfl rfl rfl fun g72 w72 hS => ?_
              refine gl_nil ?_
              refine ga_next (((hS.blank 3).blank 5).pre 6) fun hK => ?_
              refine ga_one 1 (by kernel_rfl) rfl ?_
              refine gl_op rfl rfl rfl (op_loadB 3 hT hS rfl rfl rfl rfl rfl rfl) ?_
              refine gl_nil ?_
              refine ga_next (((hS.blank 3).blank 5).pre 6) fun hK => ?_
              refine ga_one 9 (by kernel_rfl) rfl ?_
              refine gl_append 5 hT hS el28 (hS.rd (i := 6) rfl) (rfl) rfl rfl rfl rfl rfl rfl rfl rfl (by first | omega | (simp; omega)) (by first | omega | (simp; omega)) fun A73 c73 w73 hS => ?_
              have hS := hS.erase 6
              refine gl_nil ?_
              refine ga_next (((hS.blank 3).blank 5).pre 6) fun hK => ?_
              refine ga_take 10 rfl rfl rfl rfl (by kernel_rfl) (fun _ _ _ _ _ h => h) hK (fun w1 hS => op_fieldB 10 rfl Try.underlying32 rfl el29 rfl rfl) ?_
              refine ga_one 11 (by kernel_rfl) rfl ?_
              refine gl_store 3 hS el29.cellsOf.1 el29.cellsOf.2 rfl rfl rfl rfl rfl rfl rfl rfl fun wlaw_go_164 hS => ?_
              refine gl_nil ?_
              refine ga_next (((hS.blank 3).blank 5).pre 6) fun hK => ?_
              refine ga_done (by kernel_rfl) ?_
              refine hK13 _ _ ?_
              clear hK13; try clear K13
              refine gc_region ?_
              refine gl_op rfl rfl rfl (op_pure hT rfl) ?_
              first | refine gl_fit hT rfl rfl rfl rfl (by omega) ?_ | refine gl_op rfl rfl rfl (op_pure hT rfl) ?_
              refine gl_op rfl rfl rfl (op_pure hT rfl) ?_
              refine gl_nil ?_
              intro a' ha
              refine ⟨J0 + 1, A73, c73, ha.sub ⟨rfl, rfl, rfl, rfl, rfl, rfl, trivial⟩, by omega, by omega, ?_⟩
              rw [mdW_succ, List.map_append]
              exact hS
        · try simp only [decide_eq_true_eq, decide_eq_false_iff_not, Bool.not_eq_true', Bool.not_eq_false', Int.not_lt, Int.not_le, Nat.not_lt, Nat.not_le, Bool.true_eq, Bool.false_eq, reduceCtorEq] at c61
          have hjK : J0 = K0 := by omega
          subst hjK
          refine gc_exit ?_
          refine hK9 _ _ ?_
          clear hK9; try clear K9
          refine gc_seq fun K14 hK14 => ?_
          refine gc_seq fun K15 hK15 => ?_
          refine gc_region ?_
          refine gl_op rfl rfl rfl (op_pure hT rfl) ?_
          refine gl_nil ?_
          refine hK15 _ _ ?_
          clear hK15; try clear K15
          refine gc_block ?_
          have hS := hS.nil 28 1
          refine gc_loop (fun kk a' w' => ∃ (J1 : Nat) (Ax1 : Option Addr) (cc1 : Nat), Fr 143 a' [(2, .pointer (some ⟨g2, 0, none⟩)), (3, .pointer (some ⟨g3, 0, none⟩)), (4, .pointer (some ⟨g4, 0, none⟩)), (6, .pointer (some ⟨g6, 0, none⟩)), (7, .pointer (some ⟨g7, 0, none⟩)), (10, .int .i64 (J1 : Nat))] ∧ J1 ≤ K1 ∧ kk = K1 + 1 - J1 ∧ St w.heap.size w w' [.blk g2 25 (whC k out kh kw sh sw ph pw seed), .blk g3 27 (shC s), .blk g4 32 (lyC (mdL 0 0 0 0 0 0 0 0 0 z4 z4 z4 z4)), .blk g6 32 (lyC (mdL k out kh kw sh sw ph pw a (Ax0, J0, cc0) (Ax1, J1, cc1) z4 z4)), .blk g7 53 [.int .i64 (J0 : Nat), .int .i64 (K1 : Nat), .int .i64 (K2 : Nat), .int .i64 (K3 : Nat)], .row Ax0 cc0 28 1 J0 ((mdW seed J0).map fV), .row Ax1 cc1 28 1 J1 ((mdB seed J1).map fV)]) (K1 + 1) ?_ ?_ ?_
          · intro a' ha; exact ⟨0, none, 0, ha.sub ⟨rfl, rfl, rfl, rfl, rfl, rfl, trivial⟩, by omega, by omega, hS⟩
          · rintro a' w' ⟨j, _, _, _, h1, h2, _⟩; omega
          rintro kk a' w1 ⟨J1, Ax1, cc1, hF, hj, hk, hS⟩
          refine gc_of hF ?_
          clear hF
          refine gc_seq fun K16 hK16 => ?_
          refine gc_seq fun K17 hK17 => ?_
          refine gc_region ?_
          refine gl_op rfl rfl rfl (op_pure hT rfl) ?_
          refine gl_op rfl rfl rfl (op_ixA (j := 1) rfl Try.underlying53 el3 rfl rfl (by decide) (by decide) rfl) ?_
          refine gl_op rfl rfl rfl (op_loadB 4 hT hS rfl rfl rfl rfl rfl rfl) ?_
          refine gl_op rfl rfl rfl (op_pure hT rfl) ?_
          refine gl_nil ?_
          refine hK17 _ _ ?_
          clear hK17; try clear K17
          refine gc_cond rfl rfl (fun c78 => ?_) (fun c78 => ?_)
          · try simp only [decide_eq_true_eq, decide_eq_false_iff_not, Bool.not_eq_true', Bool.not_eq_false', Int.not_lt, Int.not_le, Nat.not_lt, Nat.not_le, Bool.true_eq, Bool.false_eq, reduceCtorEq] at c78
            refine gc_skip ?_
            refine hK16 _ _ ?_
            clear hK16; try clear K16
            refine gc_seq fun K18 hK18 => ?_
            refine gc_block ?_
            refine gc_anyS ((hS.blank 3).blank 6) (by kernel_rfl) rfl fun nq14 hK => ?_
            have hS := hS.dr nq14
            refine ga_take 0 rfl rfl rfl rfl (by kernel_rfl) (fun _ _ _ _ _ h => h) hK (fun w1 hS => op_fieldB 11 rfl Try.underlying32 rfl el29 rfl rfl) ?_
            refine ga_take 2 rfl rfl rfl rfl (by kernel_rfl) (fun _ _ _ _ _ h => h) hK (fun w1 hS => op_fieldB 8 rfl Try.underlying25 rfl el3 rfl rfl) ?_
            refine ga_take 3 rfl rfl rfl rfl (by kernel_rfl) (fun _ _ _ _ _ h => h) hK (fun w1 hS => op_loadB 0 hT hS rfl rfl rfl rfl rfl rfl) ?_
            refine ga_take 4 rfl rfl rfl rfl (by kernel_rfl) (fun _ _ _ _ _ h => h) hK (fun w1 hS => op_pure hT rfl) ?_
            refine ga_take 5 rfl rfl rfl rfl (by kernel_rfl) (fun _ _ _ _ _ h => h) hK (fun w1 hS => (by first | exact op_fit hT rfl (by omega) | exact op_pure hT rfl)) ?_
            refine ga_take 6 rfl rfl rfl rfl (by kernel_rfl) (fun _ _ _ _ _ h => h) hK (fun w1 hS => (by first | exact op_fit hT rfl (by omega) | exact op_pure hT rfl)) ?_
            refine ga_two 1 7 (by kernel_rfl) rfl rfl ?_ ?_
            · skip
              refine gl_op rfl rfl rfl (op_loadB 3 hT hS rfl rfl rfl rfl rfl rfl) ?_
              refine gl_nil ?_
              refine ga_next (((hS.blank 3).blank 6).pre 7) fun hK => ?_
              refine ga_one 7 (by kernel_rfl) rfl ?_
              refine gl_callf rfl rfl rfl rfl Try.func18 rfl rfl rfl (small_calls seed (5 * (J1 : Int) + 1) _) ?_
              rintro _ _ ⟨rfl, n88, rfl⟩
              refine ⟨_, rfl, ?_⟩
              have hS := hS.dr n88
              refine gl_nil ?_
              refine ga_next (((hS.blank 3).blank 6).pre 7) fun hK => ?_
              refine ga_take 8 rfl rfl rfl rfl (by kernel_rfl) (fun _ _ _ _ _ h => h) hK (fun w1 hS => op_i2f hT rfl rfl rfl rfl) ?_
              refine ga_one 9 (by kernel_rfl) rfl ?_
              refine gl_lit hT hS el28 rfl rfl rfl rfl rfl rfl rfl rfl rfl fun g90 w90 hS => ?_
              refine gl_nil ?_
              refine ga_next (((hS.blank 3).blank 6).pre 7) fun hK => ?_
              refine ga_one 10 (by kernel_rfl) rfl ?_
              refine gl_append 6 hT hS el28 (hS.rd (i := 7) rfl) (rfl) rfl rfl rfl rfl rfl rfl rfl rfl (by first | omega | (simp; omega)) (by first | omega | (simp; omega)) fun A91 c91 w91 hS => ?_
              have hS := hS.erase 7
              refine gl_nil ?_
              refine ga_next (((hS.blank 3).blank 6).pre 7) fun hK => ?_
              refine ga_take 11 rfl rfl rfl rfl (by kernel_rfl) (fun _ _ _ _ _ h => h) hK (fun w1 hS => op_fieldB 11 rfl Try.underlying32 rfl el29 rfl rfl) ?_
              refine ga_one 12 (by kernel_rfl) rfl ?_
              refine gl_store 3 hS el29.cellsOf.1 el29.cellsOf.2 rfl rfl rfl rfl rfl rfl rfl rfl fun wlaw_go_167 hS => ?_
              refine gl_nil ?_
              refine ga_next (((hS.blank 3).blank 6).pre 7) fun hK => ?_
              refine ga_done (by kernel_rfl) ?_
              refine hK18 _ _ ?_
              clear hK18; try clear K18
              refine gc_region ?_
              refine gl_op rfl rfl rfl (op_pure hT rfl) ?_
              first | refine gl_fit hT rfl rfl rfl rfl (by omega) ?_ | refine gl_op rfl rfl rfl (op_pure hT rfl) ?_
              refine gl_op rfl rfl rfl (op_pure hT rfl) ?_
              refine gl_nil ?_
              intro a' ha
              refine ⟨J1 + 1, A91, c91, ha.sub ⟨rfl, rfl, rfl, rfl, rfl, rfl, trivial⟩, by omega, by omega, ?_⟩
              rw [mdB_succ, List.map_append]
              exact hS
            · skip
              refine gl_callf rfl rfl rfl rfl Try.func18 rfl rfl rfl (small_calls seed (5 * (J1 : Int) + 1) _) ?_
              rintro _ _ ⟨rfl, n88, rfl⟩
              refine ⟨_, rfl, ?_⟩
              have hS := hS.dr n88
              refine gl_nil ?_
              refine ga_next (((hS.blank 3).blank 6).pre 7) fun hK => ?_
              refine ga_take 8 rfl rfl rfl rfl (by kernel_rfl) (fun _ _ _ _ _ h => h) hK (fun w1 hS => op_i2f hT rfl rfl rfl rfl) ?_
              refine ga_two 1 9 (by kernel_rfl) rfl rfl ?_ ?_
              · skip
                refine gl_op rfl rfl rfl (op_loadB 3 hT hS rfl rfl rfl rfl rfl rfl) ?_
                refine gl_nil ?_
                refine ga_next (((hS.blank 3).blank 6).pre 7) fun hK => ?_
                refine ga_one 9 (by kernel_rfl) rfl ?_
                refine gl_lit hT hS el28 rfl rfl rfl rfl rfl rfl rfl rfl rfl fun g90 w90 hS => ?_
                refine gl_nil ?_
                refine ga_next (((hS.blank 3).blank 6).pre 7) fun hK => ?_
                refine ga_one 10 (by kernel_rfl) rfl ?_
                refine gl_append 6 hT hS el28 (hS.rd (i := 7) rfl) (rfl) rfl rfl rfl rfl rfl rfl rfl rfl (by first | omega | (simp; omega)) (by first | omega | (simp; omega)) fun A91 c91 w91 hS => ?_
                have hS := hS.erase 7
                refine gl_nil ?_
                refine ga_next (((hS.blank 3).blank 6).pre 7) fun hK => ?_
                refine ga_take 11 rfl rfl rfl rfl (by kernel_rfl) (fun _ _ _ _ _ h => h) hK (fun w1 hS => op_fieldB 11 rfl Try.underlying32 rfl el29 rfl rfl) ?_
                refine ga_one 12 (by kernel_rfl) rfl ?_
                refine gl_store 3 hS el29.cellsOf.1 el29.cellsOf.2 rfl rfl rfl rfl rfl rfl rfl rfl fun wlaw_go_167 hS => ?_
                refine gl_nil ?_
                refine ga_next (((hS.blank 3).blank 6).pre 7) fun hK => ?_
                refine ga_done (by kernel_rfl) ?_
                refine hK18 _ _ ?_
                clear hK18; try clear K18
                refine gc_region ?_
                refine gl_op rfl rfl rfl (op_pure hT rfl) ?_
                first | refine gl_fit hT rfl rfl rfl rfl (by omega) ?_ | refine gl_op rfl rfl rfl (op_pure hT rfl) ?_
                refine gl_op rfl rfl rfl (op_pure hT rfl) ?_
                refine gl_nil ?_
                intro a' ha
                refine ⟨J1 + 1, A91, c91, ha.sub ⟨rfl, rfl, rfl, rfl, rfl, rfl, trivial⟩, by omega, by omega, ?_⟩
                rw [mdB_succ, List.map_append]
                exact hS
              · skip
                refine gl_lit hT hS el28 rfl rfl rfl rfl rfl rfl rfl rfl rfl fun g90 w90 hS => ?_
                refine gl_nil ?_
                refine ga_next (((hS.blank 3).blank 6).pre 7) fun hK => ?_
                refine ga_one 1 (by kernel_rfl) rfl ?_
                refine gl_op rfl rfl rfl (op_loadB 3 hT hS rfl rfl rfl rfl rfl rfl) ?_
                refine gl_nil ?_
                refine ga_next (((hS.blank 3).blank 6).pre 7) fun hK => ?_
                refine ga_one 10 (by kernel_rfl) rfl ?_
                refine gl_append 6 hT hS el28 (hS.rd (i := 7) rfl) (rfl) rfl rfl rfl rfl rfl rfl rfl rfl (by first | omega | (simp; omega)) (by first | omega | (simp; omega)) fun A91 c91 w91 hS => ?_
                have hS := hS.erase 7
                refine gl_nil ?_
                refine ga_next (((hS.blank 3).blank 6).pre 7) fun hK => ?_
                refine ga_take 11 rfl rfl rfl rfl (by kernel_rfl) (fun _ _ _ _ _ h => h) hK (fun w1 hS => op_fieldB 11 rfl Try.underlying32 rfl el29 rfl rfl) ?_
                refine ga_one 12 (by kernel_rfl) rfl ?_
                refine gl_store 3 hS el29.cellsOf.1 el29.cellsOf.2 rfl rfl rfl rfl rfl rfl rfl rfl fun wlaw_go_167 hS => ?_
                refine gl_nil ?_
                refine ga_next (((hS.blank 3).blank 6).pre 7) fun hK => ?_
                refine ga_done (by kernel_rfl) ?_
                refine hK18 _ _ ?_
                clear hK18; try clear K18
                refine gc_region ?_
                refine gl_op rfl rfl rfl (op_pure hT rfl) ?_
                first | refine gl_fit hT rfl rfl rfl rfl (by omega) ?_ | refine gl_op rfl rfl rfl (op_pure hT rfl) ?_
                refine gl_op rfl rfl rfl (op_pure hT rfl) ?_
                refine gl_nil ?_
                intro a' ha
                refine ⟨J1 + 1, A91, c91, ha.sub ⟨rfl, rfl, rfl, rfl, rfl, rfl, trivial⟩, by omega, by omega, ?_⟩
                rw [mdB_succ, List.map_append]
                exact hS
          · try simp only [decide_eq_true_eq, decide_eq_false_iff_not, Bool.not_eq_true', Bool.not_eq_false', Int.not_lt, Int.not_le, Nat.not_lt, Nat.not_le, Bool.true_eq, Bool.false_eq, reduceCtorEq] at c78
            have hjK : J1 = K1 := by omega
            subst hjK
            refine gc_exit ?_
            refine hK14 _ _ ?_
            clear hK14; try clear K14
            refine gc_seq fun K19 hK19 => ?_
            refine gc_seq fun K20 hK20 => ?_
            refine gc_region ?_
            refine gl_op rfl rfl rfl (op_pure hT rfl) ?_
            refine gl_nil ?_
            refine hK20 _ _ ?_
            clear hK20; try clear K20
            refine gc_block ?_
            have hS := hS.nil 52 1
            refine gc_loop (fun kk a' w' => ∃ (J2 : Nat) (Ax2 : Option Addr) (cc2 : Nat), Fr 143 a' [(2, .pointer (some ⟨g2, 0, none⟩)), (3, .pointer (some ⟨g3, 0, none⟩)), (4, .pointer (some ⟨g4, 0, none⟩)), (6, .pointer (some ⟨g6, 0, none⟩)), (7, .pointer (some ⟨g7, 0, none⟩)), (11, .int .i64 (J2 : Nat))] ∧ J2 ≤ K2 ∧ kk = K2 + 1 - J2 ∧ St w.heap.size w w' [.blk g2 25 (whC k out kh kw sh sw ph pw seed), .blk g3 27 (shC s), .blk g4 32 (lyC (mdL 0 0 0 0 0 0 0 0 0 z4 z4 z4 z4)), .blk g6 32 (lyC (mdL k out kh kw sh sw ph pw a (Ax0, J0, cc0) (Ax1, J1, cc1) (Ax2, J2, cc2) z4)), .blk g7 53 [.int .i64 (J0 : Nat), .int .i64 (J1 : Nat), .int .i64 (K2 : Nat), .int .i64 (K3 : Nat)], .row Ax0 cc0 28 1 J0 ((mdW seed J0).map fV), .row Ax1 cc1 28 1 J1 ((mdB seed J1).map fV), .row Ax2 cc2 52 1 J2 ((mdZ seed J2).map cV)]) (K2 + 1) ?_ ?_ ?_
            · intro a' ha; exact ⟨0, none, 0, ha.sub ⟨rfl, rfl, rfl, rfl, rfl, rfl, trivial⟩, by omega, by omega, hS⟩
            · rintro a' w' ⟨j, _, _, _, h1, h2, _⟩; omega
            rintro kk a' w1 ⟨J2, Ax2, cc2, hF, hj, hk, hS⟩
            refine gc_of hF ?_
            clear hF
            refine gc_seq fun K21 hK21 => ?_
            refine gc_seq fun K22 hK22 => ?_
            refine gc_region ?_
            refine gl_op rfl rfl rfl (op_pure hT rfl) ?_
            refine gl_op rfl rfl rfl (op_ixA (j := 2) rfl Try.underlying53 el3 rfl rfl (by decide) (by decide) rfl) ?_
            refine gl_op rfl rfl rfl (op_loadB 4 hT hS rfl rfl rfl rfl rfl rfl) ?_
            refine gl_op rfl rfl rfl (op_pure hT rfl) ?_
            refine gl_nil ?_
            refine hK22 _ _ ?_
            clear hK22; try clear K22
            refine gc_cond rfl rfl (fun c96 => ?_) (fun c96 => ?_)
            · try simp only [decide_eq_true_eq, decide_eq_false_iff_not, Bool.not_eq_true', Bool.not_eq_false', Int.not_lt, Int.not_le, Nat.not_lt, Nat.not_le, Bool.true_eq, Bool.false_eq, reduceCtorEq] at c96
              refine gc_skip ?_
              refine hK21 _ _ ?_
              clear hK21; try clear K21
              refine gc_seq fun K23 hK23 => ?_
              refine gc_block ?_
              refine gc_anyS ((hS.blank 3).blank 7) (by kernel_rfl) rfl fun nq18 hK => ?_
              have hS := hS.dr nq18
              refine ga_take 0 rfl rfl rfl rfl (by kernel_rfl) (fun _ _ _ _ _ h => h) hK (fun w1 hS => op_fieldB 12 rfl Try.underlying32 rfl el30 rfl rfl) ?_
              refine ga_take 2 rfl rfl rfl rfl (by kernel_rfl) (fun _ _ _ _ _ h => h) hK (fun w1 hS => op_fieldB 8 rfl Try.underlying25 rfl el3 rfl rfl) ?_
              refine ga_take 3 rfl rfl rfl rfl (by kernel_rfl) (fun _ _ _ _ _ h => h) hK (fun w1 hS => op_loadB 0 hT hS rfl rfl rfl rfl rfl rfl) ?_
              refine ga_take 4 rfl rfl rfl rfl (by kernel_rfl) (fun _ _ _ _ _ h => h) hK (fun w1 hS => op_pure hT rfl) ?_
              refine ga_take 5 rfl rfl rfl rfl (by kernel_rfl) (fun _ _ _ _ _ h => h) hK (fun w1 hS => (by first | exact op_fit hT rfl (by omega) | exact op_pure hT rfl)) ?_
              refine ga_take 8 rfl rfl rfl rfl (by kernel_rfl) (fun _ _ _ _ _ h => h) hK (fun w1 hS => op_fieldB 8 rfl Try.underlying25 rfl el3 rfl rfl) ?_
              refine ga_take 9 rfl rfl rfl rfl (by kernel_rfl) (fun _ _ _ _ _ h => h) hK (fun w1 hS => op_loadB 0 hT hS rfl rfl rfl rfl rfl rfl) ?_
              refine ga_take 10 rfl rfl rfl rfl (by kernel_rfl) (fun _ _ _ _ _ h => h) hK (fun w1 hS => op_pure hT rfl) ?_
              refine ga_take 11 rfl rfl rfl rfl (by kernel_rfl) (fun _ _ _ _ _ h => h) hK (fun w1 hS => (by first | exact op_fit hT rfl (by omega) | exact op_pure hT rfl)) ?_
              refine ga_take 12 rfl rfl rfl rfl (by kernel_rfl) (fun _ _ _ _ _ h => h) hK (fun w1 hS => (by first | exact op_fit hT rfl (by omega) | exact op_pure hT rfl)) ?_
              refine ga_two 1 6 (by kernel_rfl) rfl rfl ?_ ?_
              · skip
                refine gl_op rfl rfl rfl (op_loadB 3 hT hS rfl rfl rfl rfl rfl rfl) ?_
                refine gl_nil ?_
                refine ga_next (((hS.blank 3).blank 7).pre 8) fun hK => ?_
                refine ga_one 6 (by kernel_rfl) rfl ?_
                refine gl_callf rfl rfl rfl rfl Try.func18 rfl rfl rfl (small_calls seed (2 * (J2 : Int)) _) ?_
                rintro _ _ ⟨rfl, n105, rfl⟩
                refine ⟨_, rfl, ?_⟩
                have hS := hS.dr n105
                refine gl_nil ?_
                refine ga_next (((hS.blank 3).blank 7).pre 8) fun hK => ?_
                refine ga_take 7 rfl rfl rfl rfl (by kernel_rfl) (fun _ _ _ _ _ h => h) hK (fun w1 hS => op_i2f hT rfl rfl rfl rfl) ?_
                refine ga_one 13 (by kernel_rfl) rfl ?_
                refine gl_callf rfl rfl rfl rfl Try.func18 rfl rfl rfl (small_calls seed (9 * (J2 : Int) + 4) _) ?_
                rintro _ _ ⟨rfl, n112, rfl⟩
                refine ⟨_, rfl, ?_⟩
                have hS := hS.dr n112
                refine gl_nil ?_
                refine ga_next (((hS.blank 3).blank 7).pre 8) fun hK => ?_
                refine ga_take 14 rfl rfl rfl rfl (by kernel_rfl) (fun _ _ _ _ _ h => h) hK (fun w1 hS => op_i2f hT rfl rfl rfl rfl) ?_
                refine ga_take 15 rfl rfl rfl rfl (by kernel_rfl) (fun _ _ _ _ _ h => h) hK (fun w1 hS => op_complex rfl rfl rfl) ?_
                refine ga_one 16 (by kernel_rfl) rfl ?_
                refine gl_lit hT hS el52 rfl rfl rfl rfl rfl rfl rfl rfl rfl fun g115 w115 hS => ?_
                refine gl_nil ?_
                refine ga_next (((hS.blank 3).blank 7).pre 8) fun hK => ?_
                refine ga_one 17 (by kernel_rfl) rfl ?_
                refine gl_append 7 hT hS el52 (hS.rd (i := 8) rfl) (rfl) rfl rfl rfl rfl rfl rfl rfl rfl (by first | omega | (simp; omega)) (by first | omega | (simp; omega)) fun A116 c116 w116 hS => ?_
                have hS := hS.erase 8
                refine gl_nil ?_
                refine ga_next (((hS.blank 3).blank 7).pre 8) fun hK => ?_
                refine ga_take 18 rfl rfl rfl rfl (by kernel_rfl) (fun _ _ _ _ _ h => h) hK (fun w1 hS => op_fieldB 12 rfl Try.underlying32 rfl el30 rfl rfl) ?_
                refine ga_one 19 (by kernel_rfl) rfl ?_
                refine gl_store 3 hS el30.cellsOf.1 el30.cellsOf.2 rfl rfl rfl rfl rfl rfl rfl rfl fun wlaw_go_170 hS => ?_
                refine gl_nil ?_
                refine ga_next (((hS.blank 3).blank 7).pre 8) fun hK => ?_
                refine ga_done (by kernel_rfl) ?_
                refine hK23 _ _ ?_
                clear hK23; try clear K23
                refine gc_region ?_
                refine gl_op rfl rfl rfl (op_pure hT rfl) ?_
                first | refine gl_fit hT rfl rfl rfl rfl (by omega) ?_ | refine gl_op rfl rfl rfl (op_pure hT rfl) ?_
                refine gl_op rfl rfl rfl (op_pure hT rfl) ?_
                refine gl_nil ?_
                intro a' ha
                refine ⟨J2 + 1, A116, c116, ha.sub ⟨rfl, rfl, rfl, rfl, rfl, rfl, trivial⟩, by omega, by omega, ?_⟩
                rw [mdZ_succ, List.map_append]
                exact hS
              · skip
                refine gl_callf rfl rfl rfl rfl Try.func18 rfl rfl rfl (small_calls seed (2 * (J2 : Int)) _) ?_
                rintro _ _ ⟨rfl, n105, rfl⟩
                refine ⟨_, rfl, ?_⟩
                have hS := hS.dr n105
                refine gl_nil ?_
                refine ga_next (((hS.blank 3).blank 7).pre 8) fun hK => ?_
                refine ga_take 7 rfl rfl rfl rfl (by kernel_rfl) (fun _ _ _ _ _ h => h) hK (fun w1 hS => op_i2f hT rfl rfl rfl rfl) ?_
                refine ga_two 1 13 (by kernel_rfl) rfl rfl ?_ ?_
                · skip
                  refine gl_op rfl rfl rfl (op_loadB 3 hT hS rfl rfl rfl rfl rfl rfl) ?_
                  refine gl_nil ?_
                  refine ga_next (((hS.blank 3).blank 7).pre 8) fun hK => ?_
                  refine ga_one 13 (by kernel_rfl) rfl ?_
                  refine gl_callf rfl rfl rfl rfl Try.func18 rfl rfl rfl (small_calls seed (9 * (J2 : Int) + 4) _) ?_
                  rintro _ _ ⟨rfl, n112, rfl⟩
                  refine ⟨_, rfl, ?_⟩
                  have hS := hS.dr n112
                  refine gl_nil ?_
                  refine ga_next (((hS.blank 3).blank 7).pre 8) fun hK => ?_
                  refine ga_take 14 rfl rfl rfl rfl (by kernel_rfl) (fun _ _ _ _ _ h => h) hK (fun w1 hS => op_i2f hT rfl rfl rfl rfl) ?_
                  refine ga_take 15 rfl rfl rfl rfl (by kernel_rfl) (fun _ _ _ _ _ h => h) hK (fun w1 hS => op_complex rfl rfl rfl) ?_
                  refine ga_one 16 (by kernel_rfl) rfl ?_
                  refine gl_lit hT hS el52 rfl rfl rfl rfl rfl rfl rfl rfl rfl fun g115 w115 hS => ?_
                  refine gl_nil ?_
                  refine ga_next (((hS.blank 3).blank 7).pre 8) fun hK => ?_
                  refine ga_one 17 (by kernel_rfl) rfl ?_
                  refine gl_append 7 hT hS el52 (hS.rd (i := 8) rfl) (rfl) rfl rfl rfl rfl rfl rfl rfl rfl (by first | omega | (simp; omega)) (by first | omega | (simp; omega)) fun A116 c116 w116 hS => ?_
                  have hS := hS.erase 8
                  refine gl_nil ?_
                  refine ga_next (((hS.blank 3).blank 7).pre 8) fun hK => ?_
                  refine ga_take 18 rfl rfl rfl rfl (by kernel_rfl) (fun _ _ _ _ _ h => h) hK (fun w1 hS => op_fieldB 12 rfl Try.underlying32 rfl el30 rfl rfl) ?_
                  refine ga_one 19 (by kernel_rfl) rfl ?_
                  refine gl_store 3 hS el30.cellsOf.1 el30.cellsOf.2 rfl rfl rfl rfl rfl rfl rfl rfl fun wlaw_go_170 hS => ?_
                  refine gl_nil ?_
                  refine ga_next (((hS.blank 3).blank 7).pre 8) fun hK => ?_
                  refine ga_done (by kernel_rfl) ?_
                  refine hK23 _ _ ?_
                  clear hK23; try clear K23
                  refine gc_region ?_
                  refine gl_op rfl rfl rfl (op_pure hT rfl) ?_
                  first | refine gl_fit hT rfl rfl rfl rfl (by omega) ?_ | refine gl_op rfl rfl rfl (op_pure hT rfl) ?_
                  refine gl_op rfl rfl rfl (op_pure hT rfl) ?_
                  refine gl_nil ?_
                  intro a' ha
                  refine ⟨J2 + 1, A116, c116, ha.sub ⟨rfl, rfl, rfl, rfl, rfl, rfl, trivial⟩, by omega, by omega, ?_⟩
                  rw [mdZ_succ, List.map_append]
                  exact hS
                · skip
                  refine gl_callf rfl rfl rfl rfl Try.func18 rfl rfl rfl (small_calls seed (9 * (J2 : Int) + 4) _) ?_
                  rintro _ _ ⟨rfl, n112, rfl⟩
                  refine ⟨_, rfl, ?_⟩
                  have hS := hS.dr n112
                  refine gl_nil ?_
                  refine ga_next (((hS.blank 3).blank 7).pre 8) fun hK => ?_
                  refine ga_take 14 rfl rfl rfl rfl (by kernel_rfl) (fun _ _ _ _ _ h => h) hK (fun w1 hS => op_i2f hT rfl rfl rfl rfl) ?_
                  refine ga_take 15 rfl rfl rfl rfl (by kernel_rfl) (fun _ _ _ _ _ h => h) hK (fun w1 hS => op_complex rfl rfl rfl) ?_
                  refine ga_two 1 16 (by kernel_rfl) rfl rfl ?_ ?_
                  · skip
                    refine gl_op rfl rfl rfl (op_loadB 3 hT hS rfl rfl rfl rfl rfl rfl) ?_
                    refine gl_nil ?_
                    refine ga_next (((hS.blank 3).blank 7).pre 8) fun hK => ?_
                    refine ga_one 16 (by kernel_rfl) rfl ?_
                    refine gl_lit hT hS el52 rfl rfl rfl rfl rfl rfl rfl rfl rfl fun g115 w115 hS => ?_
                    refine gl_nil ?_
                    refine ga_next (((hS.blank 3).blank 7).pre 8) fun hK => ?_
                    refine ga_one 17 (by kernel_rfl) rfl ?_
                    refine gl_append 7 hT hS el52 (hS.rd (i := 8) rfl) (rfl) rfl rfl rfl rfl rfl rfl rfl rfl (by first | omega | (simp; omega)) (by first | omega | (simp; omega)) fun A116 c116 w116 hS => ?_
                    have hS := hS.erase 8
                    refine gl_nil ?_
                    refine ga_next (((hS.blank 3).blank 7).pre 8) fun hK => ?_
                    refine ga_take 18 rfl rfl rfl rfl (by kernel_rfl) (fun _ _ _ _ _ h => h) hK (fun w1 hS => op_fieldB 12 rfl Try.underlying32 rfl el30 rfl rfl) ?_
                    refine ga_one 19 (by kernel_rfl) rfl ?_
                    refine gl_store 3 hS el30.cellsOf.1 el30.cellsOf.2 rfl rfl rfl rfl rfl rfl rfl rfl fun wlaw_go_170 hS => ?_
                    refine gl_nil ?_
                    refine ga_next (((hS.blank 3).blank 7).pre 8) fun hK => ?_
                    refine ga_done (by kernel_rfl) ?_
                    refine hK23 _ _ ?_
                    clear hK23; try clear K23
                    refine gc_region ?_
                    refine gl_op rfl rfl rfl (op_pure hT rfl) ?_
                    first | refine gl_fit hT rfl rfl rfl rfl (by omega) ?_ | refine gl_op rfl rfl rfl (op_pure hT rfl) ?_
                    refine gl_op rfl rfl rfl (op_pure hT rfl) ?_
                    refine gl_nil ?_
                    intro a' ha
                    refine ⟨J2 + 1, A116, c116, ha.sub ⟨rfl, rfl, rfl, rfl, rfl, rfl, trivial⟩, by omega, by omega, ?_⟩
                    rw [mdZ_succ, List.map_append]
                    exact hS
                  · skip
                    refine gl_lit hT hS el52 rfl rfl rfl rfl rfl rfl rfl rfl rfl fun g115 w115 hS => ?_
                    refine gl_nil ?_
                    refine ga_next (((hS.blank 3).blank 7).pre 8) fun hK => ?_
                    refine ga_one 1 (by kernel_rfl) rfl ?_
                    refine gl_op rfl rfl rfl (op_loadB 3 hT hS rfl rfl rfl rfl rfl rfl) ?_
                    refine gl_nil ?_
                    refine ga_next (((hS.blank 3).blank 7).pre 8) fun hK => ?_
                    refine ga_one 17 (by kernel_rfl) rfl ?_
                    refine gl_append 7 hT hS el52 (hS.rd (i := 8) rfl) (rfl) rfl rfl rfl rfl rfl rfl rfl rfl (by first | omega | (simp; omega)) (by first | omega | (simp; omega)) fun A116 c116 w116 hS => ?_
                    have hS := hS.erase 8
                    refine gl_nil ?_
                    refine ga_next (((hS.blank 3).blank 7).pre 8) fun hK => ?_
                    refine ga_take 18 rfl rfl rfl rfl (by kernel_rfl) (fun _ _ _ _ _ h => h) hK (fun w1 hS => op_fieldB 12 rfl Try.underlying32 rfl el30 rfl rfl) ?_
                    refine ga_one 19 (by kernel_rfl) rfl ?_
                    refine gl_store 3 hS el30.cellsOf.1 el30.cellsOf.2 rfl rfl rfl rfl rfl rfl rfl rfl fun wlaw_go_170 hS => ?_
                    refine gl_nil ?_
                    refine ga_next (((hS.blank 3).blank 7).pre 8) fun hK => ?_
                    refine ga_done (by kernel_rfl) ?_
                    refine hK23 _ _ ?_
                    clear hK23; try clear K23
                    refine gc_region ?_
                    refine gl_op rfl rfl rfl (op_pure hT rfl) ?_
                    first | refine gl_fit hT rfl rfl rfl rfl (by omega) ?_ | refine gl_op rfl rfl rfl (op_pure hT rfl) ?_
                    refine gl_op rfl rfl rfl (op_pure hT rfl) ?_
                    refine gl_nil ?_
                    intro a' ha
                    refine ⟨J2 + 1, A116, c116, ha.sub ⟨rfl, rfl, rfl, rfl, rfl, rfl, trivial⟩, by omega, by omega, ?_⟩
                    rw [mdZ_succ, List.map_append]
                    exact hS
            · try simp only [decide_eq_true_eq, decide_eq_false_iff_not, Bool.not_eq_true', Bool.not_eq_false', Int.not_lt, Int.not_le, Nat.not_lt, Nat.not_le, Bool.true_eq, Bool.false_eq, reduceCtorEq] at c96
              have hjK : J2 = K2 := by omega
              subst hjK
              refine gc_exit ?_
              refine hK19 _ _ ?_
              clear hK19; try clear K19
              refine gc_seq fun K24 hK24 => ?_
              refine gc_seq fun K25 hK25 => ?_
              refine gc_region ?_
              refine gl_op rfl rfl rfl (op_pure hT rfl) ?_
              refine gl_nil ?_
              refine hK25 _ _ ?_
              clear hK25; try clear K25
              refine gc_block ?_
              have hS := hS.nil 52 1
              refine gc_loop (fun kk a' w' => ∃ (J3 : Nat) (Ax3 : Option Addr) (cc3 : Nat), Fr 143 a' [(2, .pointer (some ⟨g2, 0, none⟩)), (3, .pointer (some ⟨g3, 0, none⟩)), (4, .pointer (some ⟨g4, 0, none⟩)), (6, .pointer (some ⟨g6, 0, none⟩)), (7, .pointer (some ⟨g7, 0, none⟩)), (12, .int .i64 (J3 : Nat))] ∧ J3 ≤ K3 ∧ kk = K3 + 1 - J3 ∧ St w.heap.size w w' [.blk g2 25 (whC k out kh kw sh sw ph pw seed), .blk g3 27 (shC s), .blk g4 32 (lyC (mdL 0 0 0 0 0 0 0 0 0 z4 z4 z4 z4)), .blk g6 32 (lyC (mdL k out kh kw sh sw ph pw a (Ax0, J0, cc0) (Ax1, J1, cc1) (Ax2, J2, cc2) (Ax3, J3, cc3))), .blk g7 53 [.int .i64 (J0 : Nat), .int .i64 (J1 : Nat), .int .i64 (J2 : Nat), .int .i64 (K3 : Nat)], .row Ax0 cc0 28 1 J0 ((mdW seed J0).map fV), .row Ax1 cc1 28 1 J1 ((mdB seed J1).map fV), .row Ax2 cc2 52 1 J2 ((mdZ seed J2).map cV), .row Ax3 cc3 52 1 J3 ((mdY seed J3).map cV)]) (K3 + 1) ?_ ?_ ?_
              · intro a' ha; exact ⟨0, none, 0, ha.sub ⟨rfl, rfl, rfl, rfl, rfl, rfl, trivial⟩, by omega, by omega, hS⟩
              · rintro a' w' ⟨j, _, _, _, h1, h2, _⟩; omega
              rintro kk a' w1 ⟨J3, Ax3, cc3, hF, hj, hk, hS⟩
              refine gc_of hF ?_
              clear hF
              refine gc_seq fun K26 hK26 => ?_
              refine gc_seq fun K27 hK27 => ?_
              refine gc_region ?_
              refine gl_op rfl rfl rfl (op_pure hT rfl) ?_
              refine gl_op rfl rfl rfl (op_ixA (j := 3) rfl Try.underlying53 el3 rfl rfl (by decide) (by decide) rfl) ?_
              refine gl_op rfl rfl rfl (op_loadB 4 hT hS rfl rfl rfl rfl rfl rfl) ?_
              refine gl_op rfl rfl rfl (op_pure hT rfl) ?_
              refine gl_nil ?_
              refine hK27 _ _ ?_
              clear hK27; try clear K27
              refine gc_cond rfl rfl (fun c121 => ?_) (fun c121 => ?_)
              · try simp only [decide_eq_true_eq, decide_eq_false_iff_not, Bool.not_eq_true', Bool.not_eq_false', Int.not_lt, Int.not_le, Nat.not_lt, Nat.not_le, Bool.true_eq, Bool.false_eq, reduceCtorEq] at c121
                refine gc_skip ?_
                refine hK26 _ _ ?_
                clear hK26; try clear K26
                refine gc_seq fun K28 hK28 => ?_
                refine gc_block ?_
                refine gc_anyS ((hS.blank 3).blank 8) (by kernel_rfl) rfl fun nq22 hK => ?_
                have hS := hS.dr nq22
                refine ga_take 0 rfl rfl rfl rfl (by kernel_rfl) (fun _ _ _ _ _ h => h) hK (fun w1 hS => op_fieldB 13 rfl Try.underlying32 rfl el30 rfl rfl) ?_
                refine ga_take 2 rfl rfl rfl rfl (by kernel_rfl) (fun _ _ _ _ _ h => h) hK (fun w1 hS => op_fieldB 8 rfl Try.underlying25 rfl el3 rfl rfl) ?_
                refine ga_take 3 rfl rfl rfl rfl (by kernel_rfl) (fun _ _ _ _ _ h => h) hK (fun w1 hS => op_loadB 0 hT hS rfl rfl rfl rfl rfl rfl) ?_
                refine ga_take 4 rfl rfl rfl rfl (by kernel_rfl) (fun _ _ _ _ _ h => h) hK (fun w1 hS => op_pure hT rfl) ?_
                refine ga_take 5 rfl rfl rfl rfl (by kernel_rfl) (fun _ _ _ _ _ h => h) hK (fun w1 hS => (by first | exact op_fit hT rfl (by omega) | exact op_pure hT rfl)) ?_
                refine ga_take 8 rfl rfl rfl rfl (by kernel_rfl) (fun _ _ _ _ _ h => h) hK (fun w1 hS => op_fieldB 8 rfl Try.underlying25 rfl el3 rfl rfl) ?_
                refine ga_take 9 rfl rfl rfl rfl (by kernel_rfl) (fun _ _ _ _ _ h => h) hK (fun w1 hS => op_loadB 0 hT hS rfl rfl rfl rfl rfl rfl) ?_
                refine ga_take 10 rfl rfl rfl rfl (by kernel_rfl) (fun _ _ _ _ _ h => h) hK (fun w1 hS => op_pure hT rfl) ?_
                refine ga_take 11 rfl rfl rfl rfl (by kernel_rfl) (fun _ _ _ _ _ h => h) hK (fun w1 hS => (by first | exact op_fit hT rfl (by omega) | exact op_pure hT rfl)) ?_
                refine ga_two 1 6 (by kernel_rfl) rfl rfl ?_ ?_
                · skip
                  refine gl_op rfl rfl rfl (op_loadB 3 hT hS rfl rfl rfl rfl rfl rfl) ?_
                  refine gl_nil ?_
                  refine ga_next (((hS.blank 3).blank 8).pre 9) fun hK => ?_
                  refine ga_one 6 (by kernel_rfl) rfl ?_
                  refine gl_callf rfl rfl rfl rfl Try.func18 rfl rfl rfl (small_calls seed ((J3 : Int) + 2) _) ?_
                  rintro _ _ ⟨rfl, n130, rfl⟩
                  refine ⟨_, rfl, ?_⟩
                  have hS := hS.dr n130
                  refine gl_nil ?_
                  refine ga_next (((hS.blank 3).blank 8).pre 9) fun hK => ?_
                  refine ga_take 7 rfl rfl rfl rfl (by kernel_rfl) (fun _ _ _ _ _ h => h) hK (fun w1 hS => op_i2f hT rfl rfl rfl rfl) ?_
                  refine ga_one 12 (by kernel_rfl) rfl ?_
                  refine gl_callf rfl rfl rfl rfl Try.func18 rfl rfl rfl (small_calls seed (6 * (J3 : Int)) _) ?_
                  rintro _ _ ⟨rfl, n136, rfl⟩
                  refine ⟨_, rfl, ?_⟩
                  have hS := hS.dr n136
                  refine gl_nil ?_
                  refine ga_next (((hS.blank 3).blank 8).pre 9) fun hK => ?_
                  refine ga_take 13 rfl rfl rfl rfl (by kernel_rfl) (fun _ _ _ _ _ h => h) hK (fun w1 hS => op_i2f hT rfl rfl rfl rfl) ?_
                  refine ga_take 14 rfl rfl rfl rfl (by kernel_rfl) (fun _ _ _ _ _ h => h) hK (fun w1 hS => op_complex rfl rfl rfl) ?_
                  refine ga_one 15 (by kernel_rfl) rfl ?_
                  refine gl_lit hT hS el52 rfl rfl rfl rfl rfl rfl rfl rfl rfl fun g139 w139 hS => ?_
                  refine gl_nil ?_
                  refine ga_next (((hS.blank 3).blank 8).pre 9) fun hK => ?_
                  refine ga_one 16 (by kernel_rfl) rfl ?_
                  refine gl_append 8 hT hS el52 (hS.rd (i := 9) rfl) (rfl) rfl rfl rfl rfl rfl rfl rfl rfl (by first | omega | (simp; omega)) (by first | omega | (simp; omega)) fun A140 c140 w140 hS => ?_
                  have hS := hS.erase 9
                  refine gl_nil ?_
                  refine ga_next (((hS.blank 3).blank 8).pre 9) fun hK => ?_
                  refine ga_take 17 rfl rfl rfl rfl (by kernel_rfl) (fun _ _ _ _ _ h => h) hK (fun w1 hS => op_fieldB 13 rfl Try.underlying32 rfl el30 rfl rfl) ?_
                  refine ga_one 18 (by kernel_rfl) rfl ?_
                  refine gl_store 3 hS el30.cellsOf.1 el30.cellsOf.2 rfl rfl rfl rfl rfl rfl rfl rfl fun wlaw_go_173 hS => ?_
                  refine gl_nil ?_
                  refine ga_next (((hS.blank 3).blank 8).pre 9) fun hK => ?_
                  refine ga_done (by kernel_rfl) ?_
                  refine hK28 _ _ ?_
                  clear hK28; try clear K28
                  refine gc_region ?_
                  refine gl_op rfl rfl rfl (op_pure hT rfl) ?_
                  first | refine gl_fit hT rfl rfl rfl rfl (by omega) ?_ | refine gl_op rfl rfl rfl (op_pure hT rfl) ?_
                  refine gl_op rfl rfl rfl (op_pure hT rfl) ?_
                  refine gl_nil ?_
                  intro a' ha
                  refine ⟨J3 + 1, A140, c140, ha.sub ⟨rfl, rfl, rfl, rfl, rfl, rfl, trivial⟩, by omega, by omega, ?_⟩
                  rw [mdY_succ, List.map_append]
                  exact hS
                · skip
                  refine gl_callf rfl rfl rfl rfl Try.func18 rfl rfl rfl (small_calls seed ((J3 : Int) + 2) _) ?_
                  rintro _ _ ⟨rfl, n130, rfl⟩
                  refine ⟨_, rfl, ?_⟩
                  have hS := hS.dr n130
                  refine gl_nil ?_
                  refine ga_next (((hS.blank 3).blank 8).pre 9) fun hK => ?_
                  refine ga_take 7 rfl rfl rfl rfl (by kernel_rfl) (fun _ _ _ _ _ h => h) hK (fun w1 hS => op_i2f hT rfl rfl rfl rfl) ?_
                  refine ga_two 1 12 (by kernel_rfl) rfl rfl ?_ ?_
                  · skip
                    refine gl_op rfl rfl rfl (op_loadB 3 hT hS rfl rfl rfl rfl rfl rfl) ?_
                    refine gl_nil ?_
                    refine ga_next (((hS.blank 3).blank 8).pre 9) fun hK => ?_
                    refine ga_one 12 (by kernel_rfl) rfl ?_
                    refine gl_callf rfl rfl rfl rfl Try.func18 rfl rfl rfl (small_calls seed (6 * (J3 : Int)) _) ?_
                    rintro _ _ ⟨rfl, n136, rfl⟩
                    refine ⟨_, rfl, ?_⟩
                    have hS := hS.dr n136
                    refine gl_nil ?_
                    refine ga_next (((hS.blank 3).blank 8).pre 9) fun hK => ?_
                    refine ga_take 13 rfl rfl rfl rfl (by kernel_rfl) (fun _ _ _ _ _ h => h) hK (fun w1 hS => op_i2f hT rfl rfl rfl rfl) ?_
                    refine ga_take 14 rfl rfl rfl rfl (by kernel_rfl) (fun _ _ _ _ _ h => h) hK (fun w1 hS => op_complex rfl rfl rfl) ?_
                    refine ga_one 15 (by kernel_rfl) rfl ?_
                    refine gl_lit hT hS el52 rfl rfl rfl rfl rfl rfl rfl rfl rfl fun g139 w139 hS => ?_
                    refine gl_nil ?_
                    refine ga_next (((hS.blank 3).blank 8).pre 9) fun hK => ?_
                    refine ga_one 16 (by kernel_rfl) rfl ?_
                    refine gl_append 8 hT hS el52 (hS.rd (i := 9) rfl) (rfl) rfl rfl rfl rfl rfl rfl rfl rfl (by first | omega | (simp; omega)) (by first | omega | (simp; omega)) fun A140 c140 w140 hS => ?_
                    have hS := hS.erase 9
                    refine gl_nil ?_
                    refine ga_next (((hS.blank 3).blank 8).pre 9) fun hK => ?_
                    refine ga_take 17 rfl rfl rfl rfl (by kernel_rfl) (fun _ _ _ _ _ h => h) hK (fun w1 hS => op_fieldB 13 rfl Try.underlying32 rfl el30 rfl rfl) ?_
                    refine ga_one 18 (by kernel_rfl) rfl ?_
                    refine gl_store 3 hS el30.cellsOf.1 el30.cellsOf.2 rfl rfl rfl rfl rfl rfl rfl rfl fun wlaw_go_173 hS => ?_
                    refine gl_nil ?_
                    refine ga_next (((hS.blank 3).blank 8).pre 9) fun hK => ?_
                    refine ga_done (by kernel_rfl) ?_
                    refine hK28 _ _ ?_
                    clear hK28; try clear K28
                    refine gc_region ?_
                    refine gl_op rfl rfl rfl (op_pure hT rfl) ?_
                    first | refine gl_fit hT rfl rfl rfl rfl (by omega) ?_ | refine gl_op rfl rfl rfl (op_pure hT rfl) ?_
                    refine gl_op rfl rfl rfl (op_pure hT rfl) ?_
                    refine gl_nil ?_
                    intro a' ha
                    refine ⟨J3 + 1, A140, c140, ha.sub ⟨rfl, rfl, rfl, rfl, rfl, rfl, trivial⟩, by omega, by omega, ?_⟩
                    rw [mdY_succ, List.map_append]
                    exact hS
                  · skip
                    refine gl_callf rfl rfl rfl rfl Try.func18 rfl rfl rfl (small_calls seed (6 * (J3 : Int)) _) ?_
                    rintro _ _ ⟨rfl, n136, rfl⟩
                    refine ⟨_, rfl, ?_⟩
                    have hS := hS.dr n136
                    refine gl_nil ?_
                    refine ga_next (((hS.blank 3).blank 8).pre 9) fun hK => ?_
                    refine ga_take 13 rfl rfl rfl rfl (by kernel_rfl) (fun _ _ _ _ _ h => h) hK (fun w1 hS => op_i2f hT rfl rfl rfl rfl) ?_
                    refine ga_take 14 rfl rfl rfl rfl (by kernel_rfl) (fun _ _ _ _ _ h => h) hK (fun w1 hS => op_complex rfl rfl rfl) ?_
                    refine ga_two 1 15 (by kernel_rfl) rfl rfl ?_ ?_
                    · skip
                      refine gl_op rfl rfl rfl (op_loadB 3 hT hS rfl rfl rfl rfl rfl rfl) ?_
                      refine gl_nil ?_
                      refine ga_next (((hS.blank 3).blank 8).pre 9) fun hK => ?_
                      refine ga_one 15 (by kernel_rfl) rfl ?_
                      refine gl_lit hT hS el52 rfl rfl rfl rfl rfl rfl rfl rfl rfl fun g139 w139 hS => ?_
                      refine gl_nil ?_
                      refine ga_next (((hS.blank 3).blank 8).pre 9) fun hK => ?_
                      refine ga_one 16 (by kernel_rfl) rfl ?_
                      refine gl_append 8 hT hS el52 (hS.rd (i := 9) rfl) (rfl) rfl rfl rfl rfl rfl rfl rfl rfl (by first | omega | (simp; omega)) (by first | omega | (simp; omega)) fun A140 c140 w140 hS => ?_
                      have hS := hS.erase 9
                      refine gl_nil ?_
                      refine ga_next (((hS.blank 3).blank 8).pre 9) fun hK => ?_
                      refine ga_take 17 rfl rfl rfl rfl (by kernel_rfl) (fun _ _ _ _ _ h => h) hK (fun w1 hS => op_fieldB 13 rfl Try.underlying32 rfl el30 rfl rfl) ?_
                      refine ga_one 18 (by kernel_rfl) rfl ?_
                      refine gl_store 3 hS el30.cellsOf.1 el30.cellsOf.2 rfl rfl rfl rfl rfl rfl rfl rfl fun wlaw_go_173 hS => ?_
                      refine gl_nil ?_
                      refine ga_next (((hS.blank 3).blank 8).pre 9) fun hK => ?_
                      refine ga_done (by kernel_rfl) ?_
                      refine hK28 _ _ ?_
                      clear hK28; try clear K28
                      refine gc_region ?_
                      refine gl_op rfl rfl rfl (op_pure hT rfl) ?_
                      first | refine gl_fit hT rfl rfl rfl rfl (by omega) ?_ | refine gl_op rfl rfl rfl (op_pure hT rfl) ?_
                      refine gl_op rfl rfl rfl (op_pure hT rfl) ?_
                      refine gl_nil ?_
                      intro a' ha
                      refine ⟨J3 + 1, A140, c140, ha.sub ⟨rfl, rfl, rfl, rfl, rfl, rfl, trivial⟩, by omega, by omega, ?_⟩
                      rw [mdY_succ, List.map_append]
                      exact hS
                    · skip
                      refine gl_lit hT hS el52 rfl rfl rfl rfl rfl rfl rfl rfl rfl fun g139 w139 hS => ?_
                      refine gl_nil ?_
                      refine ga_next (((hS.blank 3).blank 8).pre 9) fun hK => ?_
                      refine ga_one 1 (by kernel_rfl) rfl ?_
                      refine gl_op rfl rfl rfl (op_loadB 3 hT hS rfl rfl rfl rfl rfl rfl) ?_
                      refine gl_nil ?_
                      refine ga_next (((hS.blank 3).blank 8).pre 9) fun hK => ?_
                      refine ga_one 16 (by kernel_rfl) rfl ?_
                      refine gl_append 8 hT hS el52 (hS.rd (i := 9) rfl) (rfl) rfl rfl rfl rfl rfl rfl rfl rfl (by first | omega | (simp; omega)) (by first | omega | (simp; omega)) fun A140 c140 w140 hS => ?_
                      have hS := hS.erase 9
                      refine gl_nil ?_
                      refine ga_next (((hS.blank 3).blank 8).pre 9) fun hK => ?_
                      refine ga_take 17 rfl rfl rfl rfl (by kernel_rfl) (fun _ _ _ _ _ h => h) hK (fun w1 hS => op_fieldB 13 rfl Try.underlying32 rfl el30 rfl rfl) ?_
                      refine ga_one 18 (by kernel_rfl) rfl ?_
                      refine gl_store 3 hS el30.cellsOf.1 el30.cellsOf.2 rfl rfl rfl rfl rfl rfl rfl rfl fun wlaw_go_173 hS => ?_
                      refine gl_nil ?_
                      refine ga_next (((hS.blank 3).blank 8).pre 9) fun hK => ?_
                      refine ga_done (by kernel_rfl) ?_
                      refine hK28 _ _ ?_
                      clear hK28; try clear K28
                      refine gc_region ?_
                      refine gl_op rfl rfl rfl (op_pure hT rfl) ?_
                      first | refine gl_fit hT rfl rfl rfl rfl (by omega) ?_ | refine gl_op rfl rfl rfl (op_pure hT rfl) ?_
                      refine gl_op rfl rfl rfl (op_pure hT rfl) ?_
                      refine gl_nil ?_
                      intro a' ha
                      refine ⟨J3 + 1, A140, c140, ha.sub ⟨rfl, rfl, rfl, rfl, rfl, rfl, trivial⟩, by omega, by omega, ?_⟩
                      rw [mdY_succ, List.map_append]
                      exact hS
              · try simp only [decide_eq_true_eq, decide_eq_false_iff_not, Bool.not_eq_true', Bool.not_eq_false', Int.not_lt, Int.not_le, Nat.not_lt, Nat.not_le, Bool.true_eq, Bool.false_eq, reduceCtorEq] at c121
                have hjK : J3 = K3 := by omega
                subst hjK
                refine gc_exit ?_
                refine hK24 _ _ ?_
                clear hK24; try clear K24
                refine gc_seq fun K29 hK29 => ?_
                refine gc_region ?_
                refine gl_op rfl rfl rfl (op_loadG 3 Try.underlying32 rfl el32 hS rfl rfl rfl rfl rfl) ?_
                refine gl_storeM 2 hS el32 rfl rfl rfl rfl rfl rfl rfl rfl rfl fun wlaw_go_175 hS => ?_
                refine gl_op rfl rfl rfl (op_pure hT rfl) ?_
                refine gl_nil ?_
                refine hK29 _ _ ?_
                clear hK29; try clear K29
                refine gc_ret ?_
                try simp only [x_then_ret, x_block_ret]
                refine gk_res2 rfl (⟨_, rfl, run_loadVarB 2 Try.underlying32 rfl el32 hS rfl rfl rfl⟩) (rfl) ?_
                refine ⟨(Ax0, J0, cc0), (Ax1, J1, cc1), (Ax2, J2, cc2), (Ax3, J3, cc3), true, _, rfl, (hS.sub (List.drop_sublist 5 _)).keepAll, (fun _ => ⟨ho, ?_⟩), fun _ _ _ => rfl⟩
                have e0 : (lensV (mdL k out kh kw sh sw ph pw a (Ax0, J0, cc0) (Ax1, J1, cc1) (Ax2, J2, cc2) (Ax3, J3, cc3)) s).1.toNat = J0 := by show (lensV (mdL k out kh kw sh sw ph pw a z4 z4 z4 z4) s).1.toNat = J0; omega
                have e1 : (lensV (mdL k out kh kw sh sw ph pw a (Ax0, J0, cc0) (Ax1, J1, cc1) (Ax2, J2, cc2) (Ax3, J3, cc3)) s).2.1.toNat = J1 := by show (lensV (mdL k out kh kw sh sw ph pw a z4 z4 z4 z4) s).2.1.toNat = J1; omega
                have e2 : (lensV (mdL k out kh kw sh sw ph pw a (Ax0, J0, cc0) (Ax1, J1, cc1) (Ax2, J2, cc2) (Ax3, J3, cc3)) s).2.2.1.toNat = J2 := by show (lensV (mdL k out kh kw sh sw ph pw a z4 z4 z4 z4) s).2.2.1.toNat = J2; omega
                have e3 : (lensV (mdL k out kh kw sh sw ph pw a (Ax0, J0, cc0) (Ax1, J1, cc1) (Ax2, J2, cc2) (Ax3, J3, cc3)) s).2.2.2.toNat = J3 := by show (lensV (mdL k out kh kw sh sw ph pw a z4 z4 z4 z4) s).2.2.2.toNat = J3; omega
                rw [e0, e1, e2, e3]
                exact ⟨rdE_len (hS.rowRd (i := 5) rfl fun b hb => ⟨_, by simp, hb⟩) (mdW_len _ _), (mdW_len _ _).symm, by rw [mdW_len]; exact (hS.cap (i := 5) rfl).1, rdE_len (hS.rowRd (i := 6) rfl fun b hb => ⟨_, by simp, hb⟩) (mdB_len _ _), (mdB_len _ _).symm, by rw [mdB_len]; exact (hS.cap (i := 6) rfl).1,
                  rdE_len (hS.rowRd (i := 7) rfl fun b hb => ⟨_, by simp, hb⟩) (mdZ_len _ _), (mdZ_len _ _).symm, by rw [mdZ_len]; exact (hS.cap (i := 7) rfl).1, rdE_len (hS.rowRd (i := 8) rfl fun b hb => ⟨_, by simp, hb⟩) (mdY_len _ _), (mdY_len _ _).symm, by rw [mdY_len]; exact (hS.cap (i := 8) rfl).1,
                  fun x hx => (mdZ_sm _ _ x hx).2.lt, by rw [mdW_len]; omega, by rw [mdB_len]; omega, by rw [mdZ_len]; omega, by rw [mdY_len]; omega⟩
end Go.Proofs.Ytkfhablonnjgeaa
