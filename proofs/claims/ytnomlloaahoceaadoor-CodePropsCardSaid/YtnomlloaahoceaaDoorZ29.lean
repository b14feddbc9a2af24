/- Contracts of functions that CodeProps reaches, and words to say them. No condition. -/
import Derived.Test.YtnomlloaahoceaaDoorZ28
/- Contracts of package code: the first example's layer, read. No condition. -/
namespace Go.Proofs.YtnomlloaahoceaaDoor
open Go.RowKit
set_option linter.unusedVariables false
set_option linter.unusedSimpArgs false
@[reducible] def nrC (A : Option Addr) (c : Nat) (at_ : Int) (ls sh : Value) : List Value := cuC A 23 c at_ [.int .i64 1, .int .i64 1, .int .i64 1, ls, .slice none 0 0, sh, .int .i64 0]
theorem ex_le (v : Nat) : (exBv v).length ≤ 1048576 := by show 23 ≤ 1048576; decide
theorem exSh {B : Nat} {w0 w : World} {x : It} {L : List It} {ad : Addr} {cs n : Nat} {l : List Sh} {i : Nat} {s : Sh} (hS : St B w0 w (x :: .row (some ad) cs 61 3 n (l.map shC).flatten :: L)) (hn : n = l.length) (hi : l[i]? = some s) :
    ∀ j u, (shC s)[j]? = some u → w.cell? ((ad.add (i * 3)).add j) = some u := by
  subst hn
  obtain ⟨ad2, h1, h2⟩ := RdS.at (w := w) (ok := All) (enc := shC) (sz := 3) (A := some ad) (l := l) ⟨hS.rd (i := 1) rfl, fun _ => rfl⟩ hi
  injection h1 with h1
  subst h1
  exact h2
set_option maxHeartbeats 4000000 in
set_option maxRecDepth 100000 in
theorem layer1_calls {B : Nat} {w0 : World} (g : Nat) (A As : Option Addr) (c cs v : Nat) (L : List It) (w : World) (hS0 : St B w0 w (.blk g 108 (nrC A c (9) (.slice none 0 0) (.slice As 1 cs)) :: .row As cs 61 3 1 (shC ⟨1, 1, 1⟩) :: L)) {ok : Nat → Prop} (hr : Rdb B w0 ok A (exBv v)) :
    Calls Tryd.prog 55 ⟨[.pointer (some ⟨g, 0, none⟩)]⟩ w fun en w' => en = .returned (.tuple #[]) ∧ ∃ AL cL As' cs' W B', St B w0 w' (.blk g 108 (nrC A c 18 (.slice AL 1 cL) (.slice As' 2 cs')) :: .row As' cs' 61 3 2 (([⟨1, 1, 1⟩, ⟨1, 1, 1⟩] : List Sh).map shC).flatten :: .row AL cL 65 14 1 (lyC ⟨8, 0, 0, 0, 0, 0, 0, 0, 0, exA, W, B', (none, 0, 0), (none, 0, 0)⟩) :: L) := by
  obtain ⟨ad, rfl⟩ : ∃ ad, As = some ad := by
    obtain ⟨ad, h, _⟩ := (hS0.rd (i := 1) rfl).2 (by decide)
    exact ⟨ad, h⟩
  refine gc_enter (N := 194) Tryd.func55 rfl rfl rfl [(0, _)] rfl ?_
  have hS := St.start w
  have hS := hS0
  refine gc_seq fun K1 hK1 => ?_
  refine gc_region ?_
  refine gl_op rfl rfl rfl (op_pure hT rfl) ?_
  refine gl_op rfl rfl rfl (op_pure hT rfl) ?_
  refine gl_op rfl rfl rfl (op_fieldB 0 rfl Tryd.underlying108 rfl el54 rfl rfl) ?_
  refine gl_op rfl rfl rfl (op_fieldB 1 rfl Tryd.underlying54 rfl el3 rfl rfl) ?_
  refine gl_op rfl rfl rfl (op_loadB 0 hT hS rfl rfl rfl rfl rfl rfl) ?_
  refine gl_op rfl rfl rfl (op_pure hT rfl) ?_
  refine gl_nil ?_
  refine hK1 _ _ ?_
  clear hK1; try clear K1
  refine gc_seq fun K2 hK2 => ?_
  refine gc_region ?_
  refine gl_op rfl rfl rfl (op_pure hT rfl) ?_
  refine gl_op rfl rfl rfl (op_pure hT rfl) ?_
  refine gl_op rfl rfl rfl (op_fieldB 0 rfl Tryd.underlying108 rfl el54 rfl rfl) ?_
  refine gl_callP rfl rfl rfl rfl Tryd.func51 rfl rfl rfl (cUint_calls g _ A 23 c (exBv v) 9 _ _ _ hS hr rfl (ex_le v)) ?_
  rintro _ w21 (⟨x, y, hx, rfl, hS⟩ | ⟨k8, a1, hx, rfl, hS⟩)
  · rw [ex_9] at hx; cases hx
  rw [ex_9] at hx
  obtain ⟨rfl, rfl⟩ : 8 = k8 ∧ 10 = a1 := by injection hx with hx; injection hx with h1 h2; exact ⟨h1, h2⟩
  refine .inl ⟨_, rfl, ?_⟩
  refine gl_op rfl rfl rfl (op_buildG rfl plan65 rfl rfl) ?_
  refine gl_alloc el65 hS rfl rfl rfl rfl fun g3 w3 hS => ?_
  have hS := hS.moveIn 2
  refine gl_storeM 2 hS el65 rfl rfl rfl rfl rfl rfl rfl rfl rfl fun wcode_go_176 hS => ?_
  refine gl_nil ?_
  refine hK2 _ _ ?_
  clear hK2; try clear K2
  refine gc_seq fun K3 hK3 => ?_
  refine gc_anyS hS (by kernel_rfl) rfl fun nq2 hK => ?_
  have hS := hS.dr nq2
  refine ga_take 0 rfl rfl rfl rfl (by kernel_rfl) (fun _ _ _ _ h => h) hK (fun w1 hS => op_pure hT rfl) ?_
  refine ga_take 1 rfl rfl rfl rfl (by kernel_rfl) (fun _ _ _ _ h => h) hK (fun w1 hS => op_pure hT rfl) ?_
  refine ga_take 2 rfl rfl rfl rfl (by kernel_rfl) (fun _ _ _ _ h => h) hK (fun w1 hS => op_fieldB 7 rfl Tryd.underlying108 rfl el106 rfl rfl) ?_
  refine ga_take 3 rfl rfl rfl rfl (by kernel_rfl) (fun _ _ _ _ h => h) hK (fun w1 hS => op_loadB 0 hT hS rfl rfl rfl rfl rfl rfl) ?_
  refine ga_take 4 rfl rfl rfl rfl (by kernel_rfl) (fun _ _ _ _ h => h) hK (fun w1 hS => op_pure hT rfl) ?_
  refine ga_take 5 rfl rfl rfl rfl (by kernel_rfl) (fun _ _ _ _ h => h) hK (fun w1 hS => op_pure hT rfl) ?_
  refine ga_take 6 rfl rfl rfl rfl (by kernel_rfl) (fun _ _ _ _ h => h) hK (fun w1 hS => op_fieldB 7 rfl Tryd.underlying108 rfl el106 rfl rfl) ?_
  refine ga_take 7 rfl rfl rfl rfl (by kernel_rfl) (fun _ _ _ _ h => h) hK (fun w1 hS => op_loadB 0 hT hS rfl rfl rfl rfl rfl rfl) ?_
  refine ga_take 8 rfl rfl rfl rfl (by kernel_rfl) (fun _ _ _ _ h => h) hK (fun w1 hS => op_pure hT rfl) ?_
  refine ga_take 9 rfl rfl rfl rfl (by kernel_rfl) (fun _ _ _ _ h => h) hK (fun w1 hS => (by first | exact op_fit hT rfl (by omega) | exact op_pure hT rfl)) ?_
  refine ga_spell 32 (v := .int .i64 0) rfl (rfl) ?_
  refine ga_take 10 rfl rfl rfl rfl (by kernel_rfl) (fun _ _ _ _ h => h) hK (fun w1 hS => op_indexAddr hT rfl rfl el61.cellsOf.1 el61.cellsOf.2 rfl rfl (by decide) (by decide) rfl) ?_
  refine ga_take 11 rfl rfl rfl rfl (by kernel_rfl) (fun _ _ _ _ h => h) hK (fun w1 hS => op_loadS Tryd.underlying61 rfl el61 rfl rfl (exSh (l := [⟨1, 1, 1⟩]) (i := 0) hS rfl rfl) rfl) ?_
  refine ga_one 12 (by kernel_rfl) rfl ?_
  refine gl_alloc el61 hS rfl rfl rfl rfl fun g4 w4 hS => ?_
  have hS := hS.moveIn 3
  refine gl_nil ?_
  refine ga_next (hS.erase 3) fun hK => ?_
  refine ga_one 13 (by kernel_rfl) rfl ?_
  refine gl_storeM 3 hS el61 rfl rfl rfl rfl rfl rfl rfl rfl rfl fun wcode_go_177 hS => ?_
  refine gl_nil ?_
  refine ga_next (hS.erase 3) fun hK => ?_
  refine ga_done (by kernel_rfl) ?_
  refine hK3 _ _ ?_
  clear hK3; try clear K3
  refine gc_seq fun K4 hK4 => ?_
  refine gc_seq fun K5 hK5 => ?_
  refine gc_region ?_
  refine gl_op rfl rfl rfl (op_fieldB 0 rfl Tryd.underlying65 rfl el3 rfl rfl) ?_
  refine gl_op rfl rfl rfl (op_loadB 2 hT hS rfl rfl rfl rfl rfl rfl) ?_
  refine gl_op rfl rfl rfl (op_pure hT rfl) ?_
  refine gl_op rfl rfl rfl (op_pure hT rfl) ?_
  refine gl_un rfl rfl rfl rfl ?_
  refine gl_op rfl rfl rfl (op_fieldB 0 rfl Tryd.underlying65 rfl el3 rfl rfl) ?_
  refine gl_un rfl rfl rfl rfl ?_
  refine gl_op rfl rfl rfl (op_loadB 2 hT hS rfl rfl rfl rfl rfl rfl) ?_
  refine gl_un rfl rfl rfl rfl ?_
  refine gl_op rfl rfl rfl (op_pure hT rfl) ?_
  refine gl_op rfl rfl rfl (op_pure hT rfl) ?_
  refine gl_nil ?_
  refine hK5 _ _ ?_
  clear hK5; try clear K5
  refine gc_cond_f rfl ?_
  refine gc_skip ?_
  refine hK4 _ _ ?_
  clear hK4; try clear K4
  refine gc_seq fun K6 hK6 => ?_
  refine gc_seq fun K7 hK7 => ?_
  refine gc_region ?_
  refine gl_callf rfl rfl rfl rfl Tryd.func45 rfl rfl rfl (fields8_calls g3 _ _ _ _ (hS.permute ((List.perm_append_comm (l₁ := [_, _]) (l₂ := [_])).append_right _))) ?_
  rintro _ w48 ⟨rfl, hb48⟩
  refine ⟨_, rfl, ?_⟩
  have hS := hS.eqv hb48
  refine gl_op rfl rfl rfl (op_pure hT rfl) ?_
  refine gl_op rfl rfl rfl (op_pure hT rfl) ?_
  refine gl_nil ?_
  refine hK7 _ _ ?_
  clear hK7; try clear K7
  refine gc_block ?_
  have hS : St B w0 _ (.blk g 108 (nrC A c (10) (.slice none 0 0) (.slice (some ad) 1 cs)) :: .row (some ad) cs 61 3 1 (shC ⟨1, 1, 1⟩) :: .blk g3 65 (lyC ⟨8, 0, 0, 0, 0, 0, 0, 0, 0, 0, (none, 0, 0), (none, 0, 0), (none, 0, 0), (none, 0, 0)⟩) :: .blk g4 61 (shC ⟨1, 1, 1⟩) :: L) := hS
  refine gc_loop (fun kk a' w' => kk = 1 ∧ Fr 194 a' [(0, .pointer (some ⟨g, 0, none⟩)), (2, .int .i64 9), (3, .pointer (some ⟨g3, 0, none⟩)), (4, .pointer (some ⟨g4, 0, none⟩)), (49, .int .i64 0), (50, .int .i64 0)] ∧ St B w0 w' (.blk g 108 (nrC A c (10) (.slice none 0 0) (.slice (some ad) 1 cs)) :: .row (some ad) cs 61 3 1 (shC ⟨1, 1, 1⟩) :: .blk g3 65 (lyC ⟨8, 0, 0, 0, 0, 0, 0, 0, 0, 0, (none, 0, 0), (none, 0, 0), (none, 0, 0), (none, 0, 0)⟩) :: .blk g4 61 (shC ⟨1, 1, 1⟩) :: L)) 1 ?_ ?_ ?_
  · intro a' ha; exact ⟨rfl, ha.sub ⟨rfl, rfl, rfl, rfl, rfl, rfl, trivial⟩, hS⟩
  · rintro a' w' ⟨h, _⟩; omega
  clear hS
  rintro kk a' w1 ⟨hk, hF, hS⟩
  refine gc_of hF ?_
  clear hF
  refine gc_seq fun K8 hK8 => ?_
  refine gc_region ?_
  refine gl_op rfl rfl rfl (op_pure hT rfl) ?_
  refine gl_nil ?_
  refine hK8 _ _ ?_
  clear hK8; try clear K8
  refine gc_seq fun K9 hK9 => ?_
  refine gc_cond_f rfl ?_
  refine gc_exit ?_
  refine hK6 _ _ ?_
  clear hK6; try clear K6
  refine gc_seq fun K10 hK10 => ?_
  refine gc_seq fun K11 hK11 => ?_
  refine gc_region ?_
  refine gl_op rfl rfl rfl (op_fieldB 0 rfl Tryd.underlying65 rfl el3 rfl rfl) ?_
  refine gl_op rfl rfl rfl (op_loadB 2 hT hS rfl rfl rfl rfl rfl rfl) ?_
  refine gl_callf rfl rfl rfl rfl Tryd.func46 rfl rfl rfl (hasA_calls 8 _) ?_
  rintro _ _ ⟨rfl, n63, rfl⟩
  refine ⟨_, rfl, ?_⟩
  have hS := hS.dr n63
  refine gl_nil ?_
  refine hK11 _ _ ?_
  clear hK11; try clear K11
  refine gc_cond_t rfl ?_
  refine gc_region ?_
  refine gl_op rfl rfl rfl (op_pure hT rfl) ?_
  refine gl_op rfl rfl rfl (op_pure hT rfl) ?_
  refine gl_op rfl rfl rfl (op_fieldB 0 rfl Tryd.underlying108 rfl el54 rfl rfl) ?_
  refine gl_callP rfl rfl rfl rfl Tryd.func76 rfl rfl rfl (cFloat_calls g _ A 23 c (exBv v) 10 _ _ _ hS hr rfl (ex_le v) (by decide)) ?_
  rintro _ w67 (⟨x, y, hx, rfl, hS⟩ | ⟨u, a1, hx, rfl, hS⟩)
  · rw [ex_10] at hx; cases hx
  rw [ex_10] at hx
  obtain ⟨rfl, rfl⟩ : exA = u ∧ 18 = a1 := by injection hx with hx; injection hx with h1 h2; exact ⟨h1, h2⟩
  refine .inl ⟨_, rfl, ?_⟩
  refine gl_op rfl rfl rfl (op_fieldB 9 rfl Tryd.underlying65 rfl el62 rfl rfl) ?_
  refine gl_store 2 hS el62.cellsOf.1 el62.cellsOf.2 rfl rfl rfl rfl rfl rfl rfl rfl fun wcode_go_185 hS => ?_
  refine gl_nil ?_
  refine hK10 _ _ ?_
  clear hK10; try clear K10
  refine gc_seq fun K12 hK12 => ?_
  refine gc_region ?_
  refine gl_op rfl rfl rfl (op_loadG 2 Tryd.underlying65 rfl el65 hS rfl rfl rfl rfl rfl) ?_
  refine gl_op rfl rfl rfl (op_loadG 3 Tryd.underlying61 rfl el61 hS rfl rfl rfl rfl rfl) ?_
  refine gl_callf rfl rfl rfl rfl Tryd.func77 rfl rfl rfl (mOut_calls (⟨8, 0, 0, 0, 0, 0, 0, 0, 0, exA, (none, 0, 0), (none, 0, 0), (none, 0, 0), (none, 0, 0)⟩ : Ly) ⟨1, 1, 1⟩ _ (exL_ok (w := w)).okL ⟨by decide, by decide, by decide⟩) ?_
  rintro _ w72 ⟨rfl, hb72⟩
  refine ⟨_, rfl, ?_⟩
  have hS := hS.grown hb72
  rw [exOut]
  refine gl_op rfl rfl rfl (op_pure hT rfl) ?_
  refine gl_op rfl rfl rfl (op_pure hT rfl) ?_
  refine gl_op rfl rfl rfl (op_pure hT rfl) ?_
  refine gl_alloc el61 hS rfl rfl rfl rfl fun g7 w7 hS => ?_
  have hS := hS.moveIn 4
  refine gl_storeM 4 hS el61 rfl rfl rfl rfl rfl rfl rfl rfl rfl fun wcode_go_187 hS => ?_
  refine gl_op rfl rfl rfl (op_pure hT rfl) ?_
  refine gl_nil ?_
  refine hK12 _ _ ?_
  clear hK12; try clear K12
  refine gc_seq fun K13 hK13 => ?_
  refine gc_region ?_
  refine gl_op rfl rfl rfl (op_pure hT rfl) ?_
  refine gl_op rfl rfl rfl (op_pure hT rfl) ?_
  refine gl_op rfl rfl rfl (op_fieldB 0 rfl Tryd.underlying108 rfl el54 rfl rfl) ?_
  refine gl_op rfl rfl rfl (op_pure hT rfl) ?_
  refine gl_op rfl rfl rfl (op_pure hT rfl) ?_
  refine gl_callP rfl rfl rfl rfl Tryd.func53 rfl rfl rfl (check_calls8 _ 0 9 _) ?_
  rintro _ w80 (⟨hx, rfl, hb80⟩ | ⟨hx, rfl, hb80⟩)
  · exact absurd rfl hx
  refine .inl ⟨_, rfl, ?_⟩
  have hS := hS.eqv hb80
  refine gl_nil ?_
  refine hK13 _ _ ?_
  clear hK13; try clear K13
  refine gc_seq fun K14 hK14 => ?_
  refine gc_seq fun K15 hK15 => ?_
  refine gc_anyS hS (by kernel_rfl) rfl fun nq14 hK => ?_
  have hS := hS.dr nq14
  refine ga_take 0 rfl rfl rfl rfl (by kernel_rfl) (fun _ _ _ _ h => h) hK (fun w1 hS => op_fieldB 0 rfl Tryd.underlying65 rfl el3 rfl rfl) ?_
  refine ga_take 1 rfl rfl rfl rfl (by kernel_rfl) (fun _ _ _ _ h => h) hK (fun w1 hS => op_loadB 2 hT hS rfl rfl rfl rfl rfl rfl) ?_
  refine ga_take 2 rfl rfl rfl rfl (by kernel_rfl) (fun _ _ _ _ h => h) hK (fun w1 hS => op_pure hT rfl) ?_
  refine ga_spell 83 (v := .bool false) rfl (rfl) ?_
  refine ga_take 3 rfl rfl rfl rfl (by kernel_rfl) (fun _ _ _ _ h => h) hK (fun w1 hS => op_pure hT rfl) ?_
  refine ga_pass 4 rfl rfl rfl rfl rfl rfl rfl (by kernel_rfl) (fun _ _ _ _ h => h) hK ?_
  refine ga_pass 5 rfl rfl rfl rfl rfl rfl rfl (by kernel_rfl) (fun _ _ _ _ h => h) hK ?_
  refine ga_pass 6 rfl rfl rfl rfl rfl rfl rfl (by kernel_rfl) (fun _ _ _ _ h => h) hK ?_
  refine ga_pass 7 rfl rfl rfl rfl rfl rfl rfl (by kernel_rfl) (fun _ _ _ _ h => h) hK ?_
  refine ga_pass 8 rfl rfl rfl rfl rfl rfl rfl (by kernel_rfl) (fun _ _ _ _ h => h) hK ?_
  refine ga_pass 9 rfl rfl rfl rfl rfl rfl rfl (by kernel_rfl) (fun _ _ _ _ h => h) hK ?_
  refine ga_pass 10 rfl rfl rfl rfl rfl rfl rfl (by kernel_rfl) (fun _ _ _ _ h => h) hK ?_
  refine ga_pass 11 rfl rfl rfl rfl rfl rfl rfl (by kernel_rfl) (fun _ _ _ _ h => h) hK ?_
  refine ga_pass 12 rfl rfl rfl rfl rfl rfl rfl (by kernel_rfl) (fun _ _ _ _ h => h) hK ?_
  refine ga_none 13 rfl rfl rfl rfl rfl rfl (by kernel_rfl) (fun _ _ _ _ h => h) hK ?_
  refine ga_none 14 rfl rfl rfl rfl rfl rfl (by kernel_rfl) (fun _ _ _ _ h => h) hK ?_
  refine ga_none 15 rfl rfl rfl rfl rfl rfl (by kernel_rfl) (fun _ _ _ _ h => h) hK ?_
  refine ga_none 16 rfl rfl rfl rfl rfl rfl (by kernel_rfl) (fun _ _ _ _ h => h) hK ?_
  refine ga_none 17 rfl rfl rfl rfl rfl rfl (by kernel_rfl) (fun _ _ _ _ h => h) hK ?_
  refine ga_none 18 rfl rfl rfl rfl rfl rfl (by kernel_rfl) (fun _ _ _ _ h => h) hK ?_
  refine ga_none 19 rfl rfl rfl rfl rfl rfl (by kernel_rfl) (fun _ _ _ _ h => h) hK ?_
  refine ga_none 20 rfl rfl rfl rfl rfl rfl (by kernel_rfl) (fun _ _ _ _ h => h) hK ?_
  refine ga_none 21 rfl rfl rfl rfl rfl rfl (by kernel_rfl) (fun _ _ _ _ h => h) hK ?_
  refine ga_none 22 rfl rfl rfl rfl rfl rfl (by kernel_rfl) (fun _ _ _ _ h => h) hK ?_
  refine ga_pass 23 rfl rfl rfl rfl rfl rfl rfl (by kernel_rfl) (fun _ _ _ _ h => h) hK ?_
  refine ga_take 24 rfl rfl rfl rfl (by kernel_rfl) (fun _ _ _ _ h => h) hK (fun w1 hS => op_pure hT rfl) ?_
  refine ga_done (by kernel_rfl) ?_
  refine hK15 _ _ ?_
  clear hK15; try clear K15
  refine gc_cond_f rfl ?_
  refine gc_skip ?_
  refine hK14 _ _ ?_
  clear hK14; try clear K14
  refine gc_seq fun K16 hK16 => ?_
  refine gc_region ?_
  refine gl_op rfl rfl rfl (op_loadG 2 Tryd.underlying65 rfl el65 hS rfl rfl rfl rfl rfl) ?_
  refine gl_op rfl rfl rfl (op_loadG 3 Tryd.underlying61 rfl el61 hS rfl rfl rfl rfl rfl) ?_
  refine gl_callf rfl rfl rfl rfl Tryd.func78 rfl rfl rfl (mLists_calls (⟨8, 0, 0, 0, 0, 0, 0, 0, 0, exA, (none, 0, 0), (none, 0, 0), (none, 0, 0), (none, 0, 0)⟩ : Ly) ⟨1, 1, 1⟩ _ (exL_ok (w := w)).okL ⟨by decide, by decide, by decide⟩) ?_
  rintro _ w114 ⟨rfl, hb114⟩
  refine ⟨_, rfl, ?_⟩
  have hS := hS.grown hb114
  rw [exLists]
  refine gl_op rfl rfl rfl (op_pure hT rfl) ?_
  refine gl_op rfl rfl rfl (op_pure hT rfl) ?_
  refine gl_op rfl rfl rfl (op_pure hT rfl) ?_
  refine gl_op rfl rfl rfl (op_pure hT rfl) ?_
  refine gl_op rfl rfl rfl (op_pure hT rfl) ?_
  refine gl_op rfl rfl rfl (op_pure hT rfl) ?_
  refine gl_op rfl rfl rfl (op_pure hT rfl) ?_
  refine gl_op rfl rfl rfl (op_pure hT rfl) ?_
  refine gl_op rfl rfl rfl (op_pure hT rfl) ?_
  refine gl_op rfl rfl rfl (op_pure hT rfl) ?_
  refine gl_op rfl rfl rfl (op_pure hT rfl) ?_
  refine gl_nil ?_
  refine hK16 _ _ ?_
  clear hK16; try clear K16
  refine gc_seq fun K17 hK17 => ?_
  refine gc_region ?_
  refine gl_op rfl rfl rfl (op_pure hT rfl) ?_
  refine gl_op rfl rfl rfl (op_pure hT rfl) ?_
  refine gl_op rfl rfl rfl (op_fieldB 0 rfl Tryd.underlying108 rfl el54 rfl rfl) ?_
  refine gl_op rfl rfl rfl (op_pure hT rfl) ?_
  refine gl_op rfl rfl rfl (op_pure hT rfl) ?_
  refine gl_callP rfl rfl rfl rfl Tryd.func53 rfl rfl rfl (check_calls8 _ 0 9 _) ?_
  rintro _ w125 (⟨hx, rfl, hb125⟩ | ⟨hx, rfl, hb125⟩)
  · exact absurd rfl hx
  refine .inl ⟨_, rfl, ?_⟩
  have hS := hS.eqv hb125
  refine gl_nil ?_
  refine hK17 _ _ ?_
  clear hK17; try clear K17
  refine gc_seq fun K18 hK18 => ?_
  refine gc_region ?_
  refine gl_op rfl rfl rfl (op_pure hT rfl) ?_
  refine gl_op rfl rfl rfl (op_pure hT rfl) ?_
  refine gl_op rfl rfl rfl (op_fieldB 8 rfl Tryd.underlying108 rfl el3 rfl rfl) ?_
  refine gl_op rfl rfl rfl (op_loadB 0 hT hS rfl rfl rfl rfl rfl rfl) ?_
  refine gl_op rfl rfl rfl (op_pure hT rfl) ?_
  refine gl_op rfl rfl rfl (op_pure hT rfl) ?_
  first | refine gl_fit hT rfl rfl rfl rfl (by omega) ?_ | refine gl_op rfl rfl rfl (op_pure hT rfl) ?_
  refine gl_op rfl rfl rfl (op_pure hT rfl) ?_
  first | refine gl_fit hT rfl rfl rfl rfl (by omega) ?_ | refine gl_op rfl rfl rfl (op_pure hT rfl) ?_
  first | refine gl_fit hT rfl rfl rfl rfl (by omega) ?_ | refine gl_op rfl rfl rfl (op_pure hT rfl) ?_
  refine gl_op rfl rfl rfl (op_pure hT rfl) ?_
  first | refine gl_fit hT rfl rfl rfl rfl (by omega) ?_ | refine gl_op rfl rfl rfl (op_pure hT rfl) ?_
  first | refine gl_fit hT rfl rfl rfl rfl (by omega) ?_ | refine gl_op rfl rfl rfl (op_pure hT rfl) ?_
  first | refine gl_fit hT rfl rfl rfl rfl (by omega) ?_ | refine gl_op rfl rfl rfl (op_pure hT rfl) ?_
  refine gl_op rfl rfl rfl (op_pure hT rfl) ?_
  refine gl_op rfl rfl rfl (op_fieldB 8 rfl Tryd.underlying108 rfl el3 rfl rfl) ?_
  refine gl_store 0 hS el3.cellsOf.1 el3.cellsOf.2 rfl rfl rfl rfl rfl rfl rfl rfl fun wcode_go_194 hS => ?_
  refine gl_nil ?_
  refine hK18 _ _ ?_
  clear hK18; try clear K18
  refine gc_seq fun K19 hK19 => ?_
  refine gc_seq fun K20 hK20 => ?_
  refine gc_region ?_
  refine gl_op rfl rfl rfl (op_pure hT rfl) ?_
  refine gl_op rfl rfl rfl (op_pure hT rfl) ?_
  refine gl_op rfl rfl rfl (op_fieldB 8 rfl Tryd.underlying108 rfl el3 rfl rfl) ?_
  refine gl_op rfl rfl rfl (op_loadB 0 hT hS rfl rfl rfl rfl rfl rfl) ?_
  refine gl_op rfl rfl rfl (op_pure hT rfl) ?_
  refine gl_nil ?_
  refine hK20 _ _ ?_
  clear hK20; try clear K20
  refine gc_cond_f rfl ?_
  refine gc_skip ?_
  refine hK19 _ _ ?_
  clear hK19; try clear K19
  refine gc_cut (fun a' w' => ∃ W B', Fr 194 a' [(0, .pointer (some ⟨g, 0, none⟩)), (3, .pointer (some ⟨g3, 0, none⟩)), (7, .pointer (some ⟨g7, 0, none⟩)), (11, .int .i64 0), (12, .int .i64 0)] ∧ St B w0 w' (.blk g 108 (nrC A c (18) (.slice none 0 0) (.slice (some ad) 1 cs)) :: .row (some ad) cs 61 3 1 (shC ⟨1, 1, 1⟩) :: .blk g3 65 (lyC ⟨8, 0, 0, 0, 0, 0, 0, 0, 0, exA, W, B', (none, 0, 0), (none, 0, 0)⟩) :: .blk g4 61 (shC ⟨1, 1, 1⟩) :: .blk g7 61 (shC ⟨1, 1, 1⟩) :: L)) ?_ ?_
  · skip
    refine gc_anyS ((hS.blank 0).blank 2) (by kernel_rfl) rfl fun nq21 hK => ?_
    have hS := hS.dr nq21
    refine ga_take 0 rfl rfl rfl rfl (by kernel_rfl) (fun _ _ _ _ h => h) hK (fun w1 hS => op_pure hT rfl) ?_
    refine ga_take 1 rfl rfl rfl rfl (by kernel_rfl) (fun _ _ _ _ h => h) hK (fun w1 hS => op_pure hT rfl) ?_
    refine ga_take 2 rfl rfl rfl rfl (by kernel_rfl) (fun _ _ _ _ h => h) hK (fun w1 hS => op_fieldB 0 rfl Tryd.underlying108 rfl el54 rfl rfl) ?_
    refine ga_take 3 rfl rfl rfl rfl (by kernel_rfl) (fun _ _ _ _ h => h) hK (fun w1 hS => op_pure hT rfl) ?_
    refine ga_take 5 rfl rfl rfl rfl (by kernel_rfl) (fun _ _ _ _ h => h) hK (fun w1 hS => op_pure hT rfl) ?_
    refine ga_take 6 rfl rfl rfl rfl (by kernel_rfl) (fun _ _ _ _ h => h) hK (fun w1 hS => op_pure hT rfl) ?_
    refine ga_take 7 rfl rfl rfl rfl (by kernel_rfl) (fun _ _ _ _ h => h) hK (fun w1 hS => op_fieldB 0 rfl Tryd.underlying108 rfl el54 rfl rfl) ?_
    refine ga_take 8 rfl rfl rfl rfl (by kernel_rfl) (fun _ _ _ _ h => h) hK (fun w1 hS => op_pure hT rfl) ?_
    refine ga_one 4 (by kernel_rfl) rfl ?_
    refine gl_callP rfl rfl rfl rfl Tryd.func59 rfl rfl rfl (cFloats_calls g _ A 23 c (exBv v) 18 _ _ _ 0 hS hr rfl (ex_le v) (by show (0 : Int) ≤ 18 ∧ (18 : Int) ≤ (23 : Nat); decide) (by decide)) ?_
    rintro _ w156 (⟨x, y, a1, hx, rfl, hS⟩ | ⟨us, a1, A156, c156, hx, rfl, hS⟩)
    · cases hx
    obtain ⟨rfl, rfl⟩ : [] = us ∧ 18 = a1 := by injection hx with hx; injection hx with h1 h2; exact ⟨h1, h2⟩
    refine .inl ⟨_, rfl, ?_⟩
    have hS := hS.permute (.cons _ ((List.perm_append_comm (l₁ := [_]) (l₂ := [_, _, _, _])).append_right _))
    refine gl_nil ?_
    refine ga_next (((hS.blank 0).blank 2).erase 5) fun hK => ?_
    refine ga_one 9 (by kernel_rfl) rfl ?_
    refine gl_callP rfl rfl rfl rfl Tryd.func59 rfl rfl rfl (cFloats_calls g _ A 23 c (exBv v) 18 _ _ _ 0 hS hr rfl (ex_le v) (by show (0 : Int) ≤ 18 ∧ (18 : Int) ≤ (23 : Nat); decide) (by decide)) ?_
    rintro _ w161 (⟨x, y, a1, hx, rfl, hS⟩ | ⟨us, a1, A161, c161, hx, rfl, hS⟩)
    · cases hx
    obtain ⟨rfl, rfl⟩ : [] = us ∧ 18 = a1 := by injection hx with hx; injection hx with h1 h2; exact ⟨h1, h2⟩
    refine .inl ⟨_, rfl, ?_⟩
    have hS := hS.permute (.cons _ ((List.perm_append_comm (l₁ := [_]) (l₂ := [_, _, _, _, _])).append_right _))
    refine gl_nil ?_
    refine ga_next ((((hS.blank 0).blank 2).erase 5).erase 5) fun hK => ?_
    refine ga_take 10 rfl rfl rfl rfl (by kernel_rfl) (fun _ _ _ _ h => h) hK (fun w1 hS => op_fieldB 10 rfl Tryd.underlying65 rfl el22 rfl rfl) ?_
    refine ga_one 11 (by kernel_rfl) rfl ?_
    refine gl_store 2 hS el22.cellsOf.1 el22.cellsOf.2 rfl rfl rfl rfl rfl rfl rfl rfl fun wcode_go_198 hS => ?_
    refine gl_nil ?_
    refine ga_next ((((hS.blank 0).blank 2).erase 5).erase 5) fun hK => ?_
    refine ga_take 12 rfl rfl rfl rfl (by kernel_rfl) (fun _ _ _ _ h => h) hK (fun w1 hS => op_fieldB 11 rfl Tryd.underlying65 rfl el22 rfl rfl) ?_
    refine ga_one 13 (by kernel_rfl) rfl ?_
    refine gl_store 2 hS el22.cellsOf.1 el22.cellsOf.2 rfl rfl rfl rfl rfl rfl rfl rfl fun wcode_go_198 hS => ?_
    refine gl_nil ?_
    refine ga_next ((((hS.blank 0).blank 2).erase 5).erase 5) fun hK => ?_
    refine ga_done (by kernel_rfl) ?_
    intro a' ha
    exact ⟨(A156, 0, c156), (A161, 0, c161), ha.sub ⟨rfl, rfl, rfl, rfl, rfl, trivial⟩, (hS.erase 5).erase 5⟩
  rintro a' w1 ⟨W, B', hF, hS⟩
  refine gc_of hF ?_
  clear hF
  refine gc_seq fun K21 hK21 => ?_
  refine gc_region ?_
  refine gl_op rfl rfl rfl (op_pure hT rfl) ?_
  refine gl_op rfl rfl rfl (op_pure hT rfl) ?_
  refine gl_callf rfl rfl rfl rfl Tryd.func79 rfl rfl rfl (complexes0_calls _ _) ?_
  rintro _ _ ⟨rfl, n166, rfl⟩
  refine ⟨_, rfl, ?_⟩
  have hS := hS.dr n166
  refine gl_op rfl rfl rfl (op_pure hT rfl) ?_
  refine gl_op rfl rfl rfl (op_pure hT rfl) ?_
  refine gl_callf rfl rfl rfl rfl Tryd.func79 rfl rfl rfl (complexes0_calls _ _) ?_
  rintro _ _ ⟨rfl, n169, rfl⟩
  refine ⟨_, rfl, ?_⟩
  have hS := hS.dr n169
  refine gl_op rfl rfl rfl (op_fieldB 12 rfl Tryd.underlying65 rfl el63 rfl rfl) ?_
  refine gl_store 2 hS el63.cellsOf.1 el63.cellsOf.2 rfl rfl rfl rfl rfl rfl rfl rfl fun wcode_go_199 hS => ?_
  refine gl_op rfl rfl rfl (op_fieldB 13 rfl Tryd.underlying65 rfl el63 rfl rfl) ?_
  refine gl_store 2 hS el63.cellsOf.1 el63.cellsOf.2 rfl rfl rfl rfl rfl rfl rfl rfl fun wcode_go_199 hS => ?_
  refine gl_nil ?_
  refine hK21 _ _ ?_
  clear hK21; try clear K21
  refine gc_cut (fun a' w' => ∃ W B' AL cL, Fr 194 a' [(0, .pointer (some ⟨g, 0, none⟩)), (7, .pointer (some ⟨g7, 0, none⟩))] ∧ St B w0 w' (.blk g 108 (nrC A c (18) (.slice AL 1 cL) (.slice (some ad) 1 cs)) :: .row (some ad) cs 61 3 1 (shC ⟨1, 1, 1⟩) :: .row AL cL 65 14 1 (lyC ⟨8, 0, 0, 0, 0, 0, 0, 0, 0, exA, W, B', (none, 0, 0), (none, 0, 0)⟩) :: .blk g7 61 (shC ⟨1, 1, 1⟩) :: L)) ?_ ?_
  · skip
    refine gc_anyS (hS.blank 0) (by kernel_rfl) rfl fun nq23 hK => ?_
    have hS := hS.dr nq23
    refine ga_take 0 rfl rfl rfl rfl (by kernel_rfl) (fun _ _ _ _ h => h) hK (fun w1 hS => op_pure hT rfl) ?_
    refine ga_take 1 rfl rfl rfl rfl (by kernel_rfl) (fun _ _ _ _ h => h) hK (fun w1 hS => op_pure hT rfl) ?_
    refine ga_take 2 rfl rfl rfl rfl (by kernel_rfl) (fun _ _ _ _ h => h) hK (fun w1 hS => op_pure hT rfl) ?_
    refine ga_take 3 rfl rfl rfl rfl (by kernel_rfl) (fun _ _ _ _ h => h) hK (fun w1 hS => op_fieldB 2 rfl Tryd.underlying108 rfl el69 rfl rfl) ?_
    refine ga_take 4 rfl rfl rfl rfl (by kernel_rfl) (fun _ _ _ _ h => h) hK (fun w1 hS => op_fieldB 5 rfl Tryd.underlying69 rfl el66 rfl rfl) ?_
    refine ga_take 6 rfl rfl rfl rfl (by kernel_rfl) (fun _ _ _ _ h => h) hK (fun w1 hS => op_loadG 2 Tryd.underlying65 rfl el65 hS rfl rfl rfl rfl rfl) ?_
    refine ga_two 5 7 (by kernel_rfl) rfl rfl ?_ ?_
    · skip
      refine gl_op rfl rfl rfl (op_loadB 0 hT hS rfl rfl rfl rfl rfl rfl) ?_
      refine gl_nil ?_
      refine ga_next (hS.blank 0) fun hK => ?_
      refine ga_one 7 (by kernel_rfl) rfl ?_
      refine gl_litS hT hS el65 rfl rfl rfl rfl rfl rfl rfl (by decide) fun g179 w179 hS => ?_
      have hS := hS.moveIn 5
      refine gl_nil ?_
      refine ga_next ((hS.blank 0).erase 5) fun hK => ?_
      refine ga_one 8 (by kernel_rfl) rfl ?_
      refine gl_append0 hT hS el65 (hS.rd (i := 5) rfl) rfl rfl rfl rfl rfl rfl rfl rfl (by decide) (by decide) fun A180 c180 w180 hS => ?_
      have hS := hS.moveIn 6
      refine gl_nil ?_
      refine ga_next (((hS.blank 0).erase 5).erase 5) fun hK => ?_
      refine ga_take 9 rfl rfl rfl rfl (by kernel_rfl) (fun _ _ _ _ h => h) hK (fun w1 hS => op_pure hT rfl) ?_
      refine ga_take 10 rfl rfl rfl rfl (by kernel_rfl) (fun _ _ _ _ h => h) hK (fun w1 hS => op_fieldB 2 rfl Tryd.underlying108 rfl el69 rfl rfl) ?_
      refine ga_take 11 rfl rfl rfl rfl (by kernel_rfl) (fun _ _ _ _ h => h) hK (fun w1 hS => op_fieldB 5 rfl Tryd.underlying69 rfl el66 rfl rfl) ?_
      refine ga_one 12 (by kernel_rfl) rfl ?_
      refine gl_store 0 hS el66.cellsOf.1 el66.cellsOf.2 rfl rfl rfl rfl rfl rfl rfl rfl fun wcode_go_200 hS => ?_
      refine gl_nil ?_
      refine ga_next (((hS.blank 0).erase 5).erase 5) fun hK => ?_
      refine ga_done (by kernel_rfl) ?_
      intro a' ha
      refine ⟨W, B', A180, c180, ha.sub ⟨rfl, rfl, trivial⟩, ?_⟩
      have hS := ((hS.erase 5).erase 3).erase 2
      exact hS.permute (.cons _ (.cons _ (.swap _ _ _)))
    · skip
      refine gl_litS hT hS el65 rfl rfl rfl rfl rfl rfl rfl (by decide) fun g179 w179 hS => ?_
      have hS := hS.moveIn 5
      refine gl_nil ?_
      refine ga_next ((hS.blank 0).erase 5) fun hK => ?_
      refine ga_one 5 (by kernel_rfl) rfl ?_
      refine gl_op rfl rfl rfl (op_loadB 0 hT hS rfl rfl rfl rfl rfl rfl) ?_
      refine gl_nil ?_
      refine ga_next ((hS.blank 0).erase 5) fun hK => ?_
      refine ga_one 8 (by kernel_rfl) rfl ?_
      refine gl_append0 hT hS el65 (hS.rd (i := 5) rfl) rfl rfl rfl rfl rfl rfl rfl rfl (by decide) (by decide) fun A180 c180 w180 hS => ?_
      have hS := hS.moveIn 6
      refine gl_nil ?_
      refine ga_next (((hS.blank 0).erase 5).erase 5) fun hK => ?_
      refine ga_take 9 rfl rfl rfl rfl (by kernel_rfl) (fun _ _ _ _ h => h) hK (fun w1 hS => op_pure hT rfl) ?_
      refine ga_take 10 rfl rfl rfl rfl (by kernel_rfl) (fun _ _ _ _ h => h) hK (fun w1 hS => op_fieldB 2 rfl Tryd.underlying108 rfl el69 rfl rfl) ?_
      refine ga_take 11 rfl rfl rfl rfl (by kernel_rfl) (fun _ _ _ _ h => h) hK (fun w1 hS => op_fieldB 5 rfl Tryd.underlying69 rfl el66 rfl rfl) ?_
      refine ga_one 12 (by kernel_rfl) rfl ?_
      refine gl_store 0 hS el66.cellsOf.1 el66.cellsOf.2 rfl rfl rfl rfl rfl rfl rfl rfl fun wcode_go_200 hS => ?_
      refine gl_nil ?_
      refine ga_next (((hS.blank 0).erase 5).erase 5) fun hK => ?_
      refine ga_done (by kernel_rfl) ?_
      intro a' ha
      refine ⟨W, B', A180, c180, ha.sub ⟨rfl, rfl, trivial⟩, ?_⟩
      have hS := ((hS.erase 5).erase 3).erase 2
      exact hS.permute (.cons _ (.cons _ (.swap _ _ _)))
  rintro a' w1 ⟨W, B', AL, cL, hF, hS⟩
  refine gc_of hF ?_
  clear hF
  refine gc_anyS ((hS.blank 0).blank 1) (by kernel_rfl) rfl fun nq24 hK => ?_
  have hS := hS.dr nq24
  refine ga_take 0 rfl rfl rfl rfl (by kernel_rfl) (fun _ _ _ _ h => h) hK (fun w1 hS => op_pure hT rfl) ?_
  refine ga_take 1 rfl rfl rfl rfl (by kernel_rfl) (fun _ _ _ _ h => h) hK (fun w1 hS => op_pure hT rfl) ?_
  refine ga_take 2 rfl rfl rfl rfl (by kernel_rfl) (fun _ _ _ _ h => h) hK (fun w1 hS => op_pure hT rfl) ?_
  refine ga_take 3 rfl rfl rfl rfl (by kernel_rfl) (fun _ _ _ _ h => h) hK (fun w1 hS => op_fieldB 7 rfl Tryd.underlying108 rfl el106 rfl rfl) ?_
  refine ga_take 5 rfl rfl rfl rfl (by kernel_rfl) (fun _ _ _ _ h => h) hK (fun w1 hS => op_loadG 3 Tryd.underlying61 rfl el61 hS rfl rfl rfl rfl rfl) ?_
  refine ga_two 4 6 (by kernel_rfl) rfl rfl ?_ ?_
  · skip
    refine gl_op rfl rfl rfl (op_loadB 0 hT hS rfl rfl rfl rfl rfl rfl) ?_
    refine gl_nil ?_
    refine ga_next ((hS.blank 0).blank 1) fun hK => ?_
    refine ga_one 6 (by kernel_rfl) rfl ?_
    refine gl_litS hT hS el61 rfl rfl rfl rfl rfl rfl rfl (by decide) fun g190 w190 hS => ?_
    have hS := hS.moveIn 4
    refine gl_nil ?_
    refine ga_next (((hS.blank 0).blank 1).erase 4) fun hK => ?_
    refine ga_one 7 (by kernel_rfl) rfl ?_
    refine gl_append 1 hT hS el61 (hS.rd (i := 4) rfl) rfl rfl rfl rfl rfl rfl rfl rfl rfl (by decide) (by decide) fun A191 c191 w191 hS => ?_
    refine gl_nil ?_
    refine ga_next (((hS.blank 0).blank 1).erase 4) fun hK => ?_
    refine ga_take 8 rfl rfl rfl rfl (by kernel_rfl) (fun _ _ _ _ h => h) hK (fun w1 hS => op_pure hT rfl) ?_
    refine ga_take 9 rfl rfl rfl rfl (by kernel_rfl) (fun _ _ _ _ h => h) hK (fun w1 hS => op_fieldB 7 rfl Tryd.underlying108 rfl el106 rfl rfl) ?_
    refine ga_one 10 (by kernel_rfl) rfl ?_
    refine gl_store 0 hS el106.cellsOf.1 el106.cellsOf.2 rfl rfl rfl rfl rfl rfl rfl rfl fun wcode_go_201 hS => ?_
    refine gl_nil ?_
    refine ga_next (((hS.blank 0).blank 1).erase 4) fun hK => ?_
    refine ga_done (by kernel_rfl) ?_
    refine gk_end0 rfl ?_
    exact ⟨rfl, AL, cL, A191, c191, W, B', (hS.erase 4).erase 3⟩
  · skip
    refine gl_litS hT hS el61 rfl rfl rfl rfl rfl rfl rfl (by decide) fun g190 w190 hS => ?_
    have hS := hS.moveIn 4
    refine gl_nil ?_
    refine ga_next (((hS.blank 0).blank 1).erase 4) fun hK => ?_
    refine ga_one 4 (by kernel_rfl) rfl ?_
    refine gl_op rfl rfl rfl (op_loadB 0 hT hS rfl rfl rfl rfl rfl rfl) ?_
    refine gl_nil ?_
    refine ga_next (((hS.blank 0).blank 1).erase 4) fun hK => ?_
    refine ga_one 7 (by kernel_rfl) rfl ?_
    refine gl_append 1 hT hS el61 (hS.rd (i := 4) rfl) rfl rfl rfl rfl rfl rfl rfl rfl rfl (by decide) (by decide) fun A191 c191 w191 hS => ?_
    refine gl_nil ?_
    refine ga_next (((hS.blank 0).blank 1).erase 4) fun hK => ?_
    refine ga_take 8 rfl rfl rfl rfl (by kernel_rfl) (fun _ _ _ _ h => h) hK (fun w1 hS => op_pure hT rfl) ?_
    refine ga_take 9 rfl rfl rfl rfl (by kernel_rfl) (fun _ _ _ _ h => h) hK (fun w1 hS => op_fieldB 7 rfl Tryd.underlying108 rfl el106 rfl rfl) ?_
    refine ga_one 10 (by kernel_rfl) rfl ?_
    refine gl_store 0 hS el106.cellsOf.1 el106.cellsOf.2 rfl rfl rfl rfl rfl rfl rfl rfl fun wcode_go_201 hS => ?_
    refine gl_nil ?_
    refine ga_next (((hS.blank 0).blank 1).erase 4) fun hK => ?_
    refine ga_done (by kernel_rfl) ?_
    refine gk_end0 rfl ?_
    exact ⟨rfl, AL, cL, A191, c191, W, B', (hS.erase 4).erase 3⟩
end Go.Proofs.YtnomlloaahoceaaDoor

