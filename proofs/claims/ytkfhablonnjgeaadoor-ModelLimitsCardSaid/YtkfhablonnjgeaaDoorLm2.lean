/- The contract of ModelLimits. No condition. -/
import Derived.Test.YtkfhablonnjgeaaDoorLm1
namespace Go.Proofs.YtkfhablonnjgeaaDoor
open Go.RowKit
set_option linter.unusedVariables false
set_option linter.unusedSimpArgs false
theorem lim_size1 : sizeV lnSh = (256, 0) := by kernel_rfl
theorem lim_size2 : sizeV ⟨257, 1, 1⟩ = (0, 60) := by kernel_rfl
theorem lim_size3 : sizeV ⟨4294967296, 4294967296, 1⟩ = (0, 60) := by kernel_rfl
theorem made_fl (n : Nat) : (madeCells (Value.float .f64 0).cells (n * 1)).toList = (List.replicate n 0).map fV := by rw [List.map_replicate]; exact made_one _ _
theorem lim_ly : (madeCells (Value.agg ⟨lxC limZ⟩).cells (65 * 14)).toList = ((List.replicate 65 limZ).map lxC).flatten := by
  rw [List.map_replicate]; exact made_flat ⟨lxC limZ⟩ (by decide) 65
@[reducible] def relus (i : Nat) : List Value := ((List.replicate i limR ++ List.replicate (65 - i) limZ).map lxC).flatten
theorem relus_len (i : Nat) (h : i ≤ 65) : (relus i).length = 910 := by
  unfold relus
  rw [List.length_flatten, List.map_map]
  have : ∀ l : List Lx, (l.map (List.length ∘ lxC)).sum = l.length * 14 := by
    intro l
    induction l with
    | nil => rfl
    | cons x l ih => rw [List.map_cons, List.sum_cons, ih, List.length_cons]; show 14 + _ = _; omega
  rw [this, List.length_append, List.length_replicate, List.length_replicate]
  omega
theorem relus_set (i : Nat) (h : i < 65) : (relus i).set (i * 14 + 0) (.int .i64 7) = relus (i + 1) := by
  unfold relus
  rw [flat_set (sz := 14) (fun _ => rfl) _ i 0 limZ limR (.int .i64 7) (rep_at limR limZ 65 i h) (by decide) rfl, rep_set limR limZ 65 i h]
theorem relus_65 : relus 65 = ((List.replicate 65 limR).map lxC).flatten := by unfold relus; simp
theorem lim_rd64 {w w0 : World} {B : Nat} {L : List It} (hS : St B w0 w L) {i g : Nat} {t : TypeId} (hi : L[i]? = some (.blk g t (relus 65))) : RdS w All lxC 14 (some ⟨g, 0, none⟩) (List.replicate 64 limR) := by
  refine ⟨?_, fun _ => rfl⟩
  have h := (hS.rdB hi (n := 65) (sz := 14) (relus_len 65 (by decide))).take (k := 64) (by decide)
  rw [List.length_replicate]
  have e : (relus 65).take (64 * 14) = ((List.replicate 64 limR).map lxC).flatten := by
    rw [relus_65, show List.replicate 65 limR = List.replicate 64 limR ++ [limR] by rw [← List.replicate_succ'], List.map_append, List.flatten_append]
    exact List.take_left' (by
      have := relus_len 65 (by decide)
      rw [relus_65, show List.replicate 65 limR = List.replicate 64 limR ++ [limR] by rw [← List.replicate_succ'], List.map_append, List.flatten_append, List.length_append] at this
      have h2 : (List.map lxC [limR]).flatten.length = 14 := rfl
      omega)
  rw [e] at h
  exact h
theorem lim_rd65 {w w0 : World} {B : Nat} {L : List It} (hS : St B w0 w L) {i g : Nat} {t : TypeId} (hi : L[i]? = some (.blk g t (relus 65))) : RdS w All lxC 14 (some ⟨g, 0, none⟩) (List.replicate 65 limR) := by
  refine ⟨?_, fun _ => rfl⟩
  have h := hS.rdB hi (n := 65) (sz := 14) (relus_len 65 (by decide))
  rw [List.length_replicate]
  rw [relus_65] at h
  exact h
theorem RdE.ofRd {w : World} {ok : Nat → Prop} {A : Option Addr} {n : Nat} {l : List Nat} (h : Rd w ok A n 1 (l.map fV)) (hl : l.length = n) : RdE w ok fV A l := by
  unfold RdE
  rw [hl]
  exact h
theorem RdE.ofRow {w : World} {B g c n : Nat} {t : TypeId} {l : List Nat} (h : It.ok B w (.row (some ⟨g, 0, none⟩) c t 1 n (l.map fV))) (hl : l.length = n) : RdE w All fV (some ⟨g, 0, none⟩) l := by
  have h := Owns.rd h
  unfold RdE
  rw [hl]
  exact h
theorem St.rdS {w w0 : World} {B : Nat} {L : List It} (hS : St B w0 w L) {i n c : Nat} {A : Option Addr} {t : TypeId} {S : List Sv} (hi : L[i]? = some (.row A c t 1 n (S.map svV))) (hl : S.length = n) : RdE w All svV A S := by
  have h := hS.rd hi
  unfold RdE
  rw [hl]
  exact h
theorem lim_sum (A C A' C' : Option Addr) : sumW [limL 255 65280 255 A C, limL 1 255 1 A' C'] = 65791 := by
  unfold sumW
  rw [List.map_cons, List.map_cons, List.map_nil, lim_wts, lim_wts]
  rfl
theorem lnSh_ok : lnSh.ok := ⟨by decide, by decide, by decide⟩
set_option maxHeartbeats 8000000 in
set_option maxRecDepth 100000 in
theorem ModelLimits_calls (n : Int) (hn : -9223372036854775808 ≤ n ∧ n ≤ 9223372036854775807) (w : World) (hU : Tabs w) : Calls Tryd.prog 5 ⟨[.int .i64 n]⟩ w fun e w' => e = .returned (.bool true) ∧ Below w.heap.size w w' := by
  refine gc_enter (N := 240) Tryd.func5 rfl rfl rfl [(0, _)] rfl ?_
  have hS := St.start w
  refine gc_seq fun K1 hK1 => ?_
  refine gc_region ?_
  refine gl_op rfl rfl rfl (op_pure hT rfl) ?_
  refine gl_nil ?_
  refine hK1 _ _ ?_
  clear hK1; try clear K1
  refine gc_seq fun K2 hK2 => ?_
  refine gc_seq fun K3 hK3 => ?_
  refine gc_region ?_
  refine gl_callf rfl rfl rfl rfl Tryd.func6 rfl rfl rfl (told_calls _ (hU.old hS)) ?_
  rintro _ w22 ⟨rfl, hb22⟩
  refine ⟨_, rfl, ?_⟩
  have hS := hS.grown hb22
  refine gl_op rfl rfl rfl (op_pure hT rfl) ?_
  refine gl_nil ?_
  refine hK3 _ _ ?_
  clear hK3; try clear K3
  refine gc_cond_f rfl ?_
  refine gc_skip ?_
  refine hK2 _ _ ?_
  clear hK2; try clear K2
  refine gc_seq fun K4 hK4 => ?_
  refine gc_region ?_
  refine gl_op rfl rfl rfl (op_buildG rfl plan42 rfl rfl) ?_
  refine gl_alloc el42 hS rfl rfl rfl rfl fun g3 w3 hS => ?_
  refine gl_storeM 0 hS el42 rfl rfl rfl rfl rfl rfl rfl rfl rfl fun wlaw_go_293 hS => ?_
  refine gl_nil ?_
  refine hK4 _ _ ?_
  clear hK4; try clear K4
  refine gc_seq fun K5 hK5 => ?_
  refine gc_region ?_
  refine gl_op rfl rfl rfl (op_loadG 0 Tryd.underlying42 rfl el42 hS rfl rfl rfl rfl rfl) ?_
  refine gl_callf rfl rfl rfl rfl Tryd.func14 rfl rfl rfl (mSize_calls lnSh _ lnSh_ok) ?_
  rintro _ w27 ⟨rfl, hb27⟩
  refine ⟨_, rfl, ?_⟩
  have hS := hS.grown hb27; rw [lim_size1]
  refine gl_op rfl rfl rfl (op_pure hT rfl) ?_
  refine gl_op rfl rfl rfl (op_pure hT rfl) ?_
  refine gl_op rfl rfl rfl (op_pure hT rfl) ?_
  refine gl_op rfl rfl rfl (op_pure hT rfl) ?_
  refine gl_op rfl rfl rfl (op_pure hT rfl) ?_
  refine gl_nil ?_
  refine hK5 _ _ ?_
  clear hK5; try clear K5
  refine gc_seq fun K6 hK6 => ?_
  refine gc_region ?_
  refine gl_op rfl rfl rfl (op_buildG rfl plan42 rfl rfl) ?_
  refine gl_callf rfl rfl rfl rfl Tryd.func14 rfl rfl rfl (mSize_calls ⟨257, 1, 1⟩ _ ⟨by decide, by decide, by decide⟩) ?_
  rintro _ w32 ⟨rfl, hb32⟩
  refine ⟨_, rfl, ?_⟩
  have hS := hS.grown hb32; rw [lim_size2]
  refine gl_op rfl rfl rfl (op_pure hT rfl) ?_
  refine gl_op rfl rfl rfl (op_pure hT rfl) ?_
  refine gl_op rfl rfl rfl (op_pure hT rfl) ?_
  refine gl_op rfl rfl rfl (op_pure hT rfl) ?_
  refine gl_op rfl rfl rfl (op_pure hT rfl) ?_
  refine gl_nil ?_
  refine hK6 _ _ ?_
  clear hK6; try clear K6
  refine gc_seq fun K7 hK7 => ?_
  refine gc_region ?_
  refine gl_op rfl rfl rfl (op_buildG rfl plan42 rfl rfl) ?_
  refine gl_callf rfl rfl rfl rfl Tryd.func14 rfl rfl rfl (mSize_calls ⟨4294967296, 4294967296, 1⟩ _ ⟨by decide, by decide, by decide⟩) ?_
  rintro _ w37 ⟨rfl, hb37⟩
  refine ⟨_, rfl, ?_⟩
  have hS := hS.grown hb37; rw [lim_size3]
  refine gl_op rfl rfl rfl (op_pure hT rfl) ?_
  refine gl_op rfl rfl rfl (op_pure hT rfl) ?_
  refine gl_op rfl rfl rfl (op_pure hT rfl) ?_
  refine gl_op rfl rfl rfl (op_pure hT rfl) ?_
  refine gl_op rfl rfl rfl (op_pure hT rfl) ?_
  refine gl_nil ?_
  refine hK7 _ _ ?_
  clear hK7; try clear K7
  refine gc_seq fun K8 hK8 => ?_
  refine gc_seq fun K9 hK9 => ?_
  refine gc_region ?_
  refine gl_op rfl rfl rfl (op_pure hT rfl) ?_
  refine gl_op rfl rfl rfl (op_pure hT rfl) ?_
  refine gl_op rfl rfl rfl (op_pure hT rfl) ?_
  refine gl_un rfl rfl rfl rfl ?_
  refine gl_op rfl rfl rfl (op_pure hT rfl) ?_
  refine gl_un rfl rfl rfl rfl ?_
  refine gl_op rfl rfl rfl (op_pure hT rfl) ?_
  refine gl_op rfl rfl rfl (op_pure hT rfl) ?_
  refine gl_op rfl rfl rfl (op_pure hT rfl) ?_
  refine gl_un rfl rfl rfl rfl ?_
  refine gl_op rfl rfl rfl (op_pure hT rfl) ?_
  refine gl_un rfl rfl rfl rfl ?_
  refine gl_op rfl rfl rfl (op_pure hT rfl) ?_
  refine gl_op rfl rfl rfl (op_pure hT rfl) ?_
  refine gl_nil ?_
  refine hK9 _ _ ?_
  clear hK9; try clear K9
  refine gc_cond_f rfl ?_
  refine gc_skip ?_
  refine hK8 _ _ ?_
  clear hK8; try clear K8
  refine gc_seq fun K10 hK10 => ?_
  refine gc_region ?_
  refine gl_makeB (n := 65) hT hS el49 rfl rfl rfl rfl rfl rfl rfl (by decide) (by decide) fun g50 w50 hS => ?_
  refine gl_op rfl rfl rfl (op_pure hT rfl) ?_
  refine gl_nil ?_
  refine hK10 _ _ ?_
  clear hK10; try clear K10
  refine gc_seq fun K11 hK11 => ?_
  refine gc_seq fun K12 hK12 => ?_
  refine gc_region ?_
  refine gl_op rfl rfl rfl (op_pure hT rfl) ?_
  refine gl_nil ?_
  refine hK12 _ _ ?_
  clear hK12; try clear K12
  refine gc_block ?_
  have hS : St w.heap.size w _ [.blk g3 42 (shC lnSh), .blk g50 49 (madeCells (Value.agg ⟨lxC limZ⟩).cells (65 * 14)).toList] := hS
  rw [lim_ly] at hS
  refine gc_loop (fun k a w' => ∃ i : Nat, Fr 240 a [(0, .int .i64 n), (3, .pointer (some ⟨g3, 0, none⟩)), (10, .slice (some ⟨g50, 0, none⟩) 65 65), (11, .int .i64 (i : Nat))] ∧ i ≤ 65 ∧ k = 66 - i ∧
    St w.heap.size w w' [.blk g3 42 (shC lnSh), .blk g50 49 (relus i)]) 66 ?_ ?_ ?_
  · intro a ha; exact ⟨0, ha.sub ⟨rfl, rfl, rfl, rfl, trivial⟩, by omega, by omega, hS⟩
  · rintro a w ⟨i, _, h1, h2, _⟩; omega
  rintro k a w1 ⟨i, hF, hi, hk, hS⟩
  refine gc_of hF ?_
  clear hF
  refine gc_seq fun K13 hK13 => ?_
  refine gc_seq fun K14 hK14 => ?_
  refine gc_region ?_
  refine gl_op rfl rfl rfl (op_pure hT rfl) ?_
  refine gl_op rfl rfl rfl (op_pure hT rfl) ?_
  refine gl_nil ?_
  refine hK14 _ _ ?_
  clear hK14; try clear K14
  refine gc_cond rfl rfl (fun c52 => ?_) (fun c52 => ?_)
  · try simp only [decide_eq_true_eq, decide_eq_false_iff_not, Bool.not_eq_true', Bool.not_eq_false', Int.not_lt, Int.not_le, Nat.not_lt, Nat.not_le, Bool.true_eq, Bool.false_eq, reduceCtorEq] at c52
    refine gc_skip ?_
    refine hK13 _ _ ?_
    clear hK13; try clear K13
    refine gc_seq fun K15 hK15 => ?_
    refine gc_block ?_
    refine gc_region ?_
    refine gl_op rfl rfl rfl (op_pure hT rfl) ?_
    refine gl_op rfl rfl rfl (op_pure hT rfl) ?_
    refine gl_op rfl rfl rfl (op_indexAddr hT rfl rfl el49.cellsOf.1 el49.cellsOf.2 rfl rfl (by omega) (by omega) rfl) ?_
    refine gl_spell 57 (v := .pointer (some ⟨g50, i * 14, none⟩)) rfl (by rw [addB, Int.toNat_natCast, Nat.zero_add]) ?_
    refine gl_op rfl rfl rfl (op_fieldB (i * 14 + 0) rfl Tryd.underlying49 rfl el3 rfl rfl) ?_
    refine gl_store 1 hS el3.cellsOf.1 el3.cellsOf.2 rfl rfl rfl rfl rfl rfl (by rw [relus_len i (by omega)]; exact Nat.ble_eq_true_of_le (by omega)) rfl fun w58 hS => ?_
    have hS : St w.heap.size w _ [.blk g3 42 (shC lnSh), .blk g50 49 ((relus i).set (i * 14 + 0) (.int .i64 7))] := hS
    rw [relus_set i (by omega)] at hS
    refine gl_nil ?_
    refine hK15 _ _ ?_
    clear hK15; try clear K15
    refine gc_region ?_
    refine gl_op rfl rfl rfl (op_pure hT rfl) ?_
    first | refine gl_fit hT rfl rfl rfl rfl (by omega) ?_ | refine gl_op rfl rfl rfl (op_pure hT rfl) ?_
    refine gl_op rfl rfl rfl (op_pure hT rfl) ?_
    refine gl_nil ?_
    intro a ha
    exact ⟨i + 1, ha.sub ⟨rfl, rfl, rfl, rfl, trivial⟩, by omega, by omega, hS⟩
  · try simp only [decide_eq_true_eq, decide_eq_false_iff_not, Bool.not_eq_true', Bool.not_eq_false', Int.not_lt, Int.not_le, Nat.not_lt, Nat.not_le, Bool.true_eq, Bool.false_eq, reduceCtorEq] at c52
    have hi65 : i = 65 := by omega
    subst hi65
    refine gc_exit ?_
    refine hK11 _ _ ?_
    clear hK11; try clear K11
    refine gc_seq fun K16 hK16 => ?_
    refine gc_anyS hS (by kernel_rfl) rfl fun nq14 hK => ?_
    have hS := hS.dr nq14
    refine ga_take 0 rfl rfl rfl rfl (by kernel_rfl) (fun _ _ _ _ _ h => h) hK (fun w1 hS => op_loadG 0 Tryd.underlying42 rfl el42 hS rfl rfl rfl rfl rfl) ?_
    refine ga_take 1 rfl rfl rfl rfl (by kernel_rfl) (fun _ _ _ _ _ h => h) hK (fun w1 hS => op_pure hT rfl) ?_
    refine ga_take 2 rfl rfl rfl rfl (by kernel_rfl) (fun _ _ _ _ _ h => h) hK (fun w1 hS => op_slice_h hT el49 rfl rfl rfl rfl (by first | omega | (simp; omega)) (by first | omega | (simp; omega))) ?_
    refine ga_take 3 rfl rfl rfl rfl (by kernel_rfl) (fun _ _ _ _ _ h => h) hK (fun w1 hS => op_buildG rfl plan53 rfl rfl) ?_
    refine ga_one 4 (by kernel_rfl) rfl ?_
    refine gl_callf rfl rfl rfl rfl Tryd.func15 rfl rfl rfl (check_calls lnSh (some ⟨g50, 0, none⟩) _ (List.replicate 64 limR) _ lnSh_ok (lim_rd64 hS (i := 1) rfl) (limR_lyM 64)) ?_
    rintro _ w64 ⟨rfl, hb64⟩
    refine ⟨_, rfl, ?_⟩
    have hS := hS.grown hb64; rw [lim_64]
    refine gl_nil ?_
    refine ga_next (hS.pre 2) fun hK => ?_
    refine ga_take 5 rfl rfl rfl rfl (by kernel_rfl) (fun _ _ _ _ _ h => h) hK (fun w1 hS => op_pure hT rfl) ?_
    refine ga_take 6 rfl rfl rfl rfl (by kernel_rfl) (fun _ _ _ _ _ h => h) hK (fun w1 hS => op_pure hT rfl) ?_
    refine ga_take 7 rfl rfl rfl rfl (by kernel_rfl) (fun _ _ _ _ _ h => h) hK (fun w1 hS => op_pure hT rfl) ?_
    refine ga_take 8 rfl rfl rfl rfl (by kernel_rfl) (fun _ _ _ _ _ h => h) hK (fun w1 hS => op_pure hT rfl) ?_
    refine ga_done (by kernel_rfl) ?_
    refine hK16 _ _ ?_
    clear hK16; try clear K16
    refine gc_seq fun K17 hK17 => ?_
    refine gc_region ?_
    refine gl_op rfl rfl rfl (op_loadG 0 Tryd.underlying42 rfl el42 hS rfl rfl rfl rfl rfl) ?_
    refine gl_op rfl rfl rfl (op_pure hT rfl) ?_
    refine gl_op rfl rfl rfl (op_buildG rfl plan53 rfl rfl) ?_
    refine gl_callf rfl rfl rfl rfl Tryd.func15 rfl rfl rfl (check_calls lnSh (some ⟨g50, 0, none⟩) _ (List.replicate 65 limR) _ lnSh_ok (lim_rd65 hS (i := 1) rfl) (limR_lyM 65)) ?_
    rintro _ w71 ⟨rfl, hb71⟩
    refine ⟨_, rfl, ?_⟩
    have hS := hS.grown hb71; rw [lim_65]
    refine gl_op rfl rfl rfl (op_pure hT rfl) ?_
    refine gl_op rfl rfl rfl (op_pure hT rfl) ?_
    refine gl_op rfl rfl rfl (op_pure hT rfl) ?_
    refine gl_op rfl rfl rfl (op_pure hT rfl) ?_
    refine gl_op rfl rfl rfl (op_pure hT rfl) ?_
    refine gl_nil ?_
    refine hK17 _ _ ?_
    clear hK17; try clear K17
    refine gc_cut (fun a w' => Fr 240 a [(0, .int .i64 n), (3, .pointer (some ⟨g3, 0, none⟩))] ∧ St w.heap.size w w' [.blk g3 42 (shC lnSh)]) ?_ ?_
    · skip
      refine gc_seq fun K18 hK18 => ?_
      refine gc_region ?_
      refine gl_op rfl rfl rfl (op_pure hT rfl) ?_
      refine gl_op rfl rfl rfl (op_pure hT rfl) ?_
      refine gl_op rfl rfl rfl (op_pure hT rfl) ?_
      refine gl_un rfl rfl rfl rfl ?_
      refine gl_op rfl rfl rfl (op_pure hT rfl) ?_
      refine gl_un rfl rfl rfl rfl ?_
      refine gl_op rfl rfl rfl (op_pure hT rfl) ?_
      refine gl_op rfl rfl rfl (op_pure hT rfl) ?_
      refine gl_op rfl rfl rfl (op_pure hT rfl) ?_
      refine gl_un rfl rfl rfl rfl ?_
      refine gl_op rfl rfl rfl (op_pure hT rfl) ?_
      refine gl_un rfl rfl rfl rfl ?_
      refine gl_op rfl rfl rfl (op_pure hT rfl) ?_
      refine gl_op rfl rfl rfl (op_pure hT rfl) ?_
      refine gl_nil ?_
      refine hK18 _ _ ?_
      clear hK18; try clear K18
      refine gc_cond_f rfl ?_
      refine gc_skip ?_
      intro a ha
      exact ⟨ha.sub ⟨rfl, rfl, trivial⟩, hS.pre 1⟩
    rintro a w1 ⟨hF, hS⟩
    refine gc_of hF ?_
    clear hF
    refine gc_cut (fun a w' => ∃ g84 g85 g13, Fr 240 a [(0, .int .i64 n), (3, .pointer (some ⟨g3, 0, none⟩)), (13, .pointer (some ⟨g13, 0, none⟩))] ∧
    St w.heap.size w w' [.blk g3 42 (shC lnSh), .row (some ⟨g84, 0, none⟩) 65280 46 1 65280 ((List.replicate 65280 0).map fV), .row (some ⟨g85, 0, none⟩) 255 46 1 255 ((List.replicate 255 0).map fV), .blk g13 49 (lxC (limL 255 65280 255 (some ⟨g84, 0, none⟩) (some ⟨g85, 0, none⟩)))]) ?_ ?_
    · skip
      refine gc_anyS hS (by kernel_rfl) rfl fun nq18 hK => ?_
      have hS := hS.dr nq18
      refine ga_three 0 1 3 (by kernel_rfl) rfl rfl rfl ?_ ?_ ?_
      · skip
        refine gl_make hT hS el46 rfl rfl rfl rfl rfl rfl rfl (by decide) (by decide) fun g84 w84 hS => ?_
        rw [made_fl] at hS
        refine gl_nil ?_
        refine ga_next (hS.pre 1) fun hK => ?_
        refine ga_two 1 3 (by kernel_rfl) rfl rfl ?_ ?_
        · skip
          refine gl_make hT hS el46 rfl rfl rfl rfl rfl rfl rfl (by decide) (by decide) fun g85 w85 hS => ?_
          rw [made_fl] at hS
          refine gl_nil ?_
          refine ga_next (hS.pre 1) fun hK => ?_
          refine ga_take 2 rfl rfl rfl rfl (by kernel_rfl) (fun _ _ _ _ _ h => h) hK (fun w1 hS => op_buildG rfl plan49 rfl rfl) ?_
          refine ga_one 3 (by kernel_rfl) rfl ?_
          refine gl_alloc el49 hS rfl rfl rfl rfl fun g13 w13 hS => ?_
          refine gl_nil ?_
          refine ga_next (hS.pre 1) fun hK => ?_
          refine ga_one 4 (by kernel_rfl) rfl ?_
          refine gl_storeM 3 hS el49 rfl rfl rfl rfl rfl rfl rfl rfl rfl fun wlaw_go_309 hS => ?_
          refine gl_nil ?_
          refine ga_next (hS.pre 1) fun hK => ?_
          refine ga_done (by kernel_rfl) ?_
          intro a ha
          first
            | exact ⟨g84, g85, g13, ha.sub ⟨rfl, rfl, rfl, trivial⟩, hS⟩
            | exact ⟨g84, g85, g13, ha.sub ⟨rfl, rfl, rfl, trivial⟩, (hS.permute (.cons _ (p_bac _ _ _)))⟩
            | exact ⟨g84, g85, g13, ha.sub ⟨rfl, rfl, rfl, trivial⟩, (hS.permute (.cons _ (p_acb _ _ _)))⟩
            | exact ⟨g84, g85, g13, ha.sub ⟨rfl, rfl, rfl, trivial⟩, (hS.permute (.cons _ (p_bca _ _ _)))⟩
            | exact ⟨g84, g85, g13, ha.sub ⟨rfl, rfl, rfl, trivial⟩, (hS.permute (.cons _ (p_cab _ _ _)))⟩
            | exact ⟨g84, g85, g13, ha.sub ⟨rfl, rfl, rfl, trivial⟩, (hS.permute (.cons _ (p_cba _ _ _)))⟩
        · skip
          refine gl_alloc el49 hS rfl rfl rfl rfl fun g13 w13 hS => ?_
          refine gl_nil ?_
          refine ga_next (hS.pre 1) fun hK => ?_
          refine ga_one 1 (by kernel_rfl) rfl ?_
          refine gl_make hT hS el46 rfl rfl rfl rfl rfl rfl rfl (by decide) (by decide) fun g85 w85 hS => ?_
          rw [made_fl] at hS
          refine gl_nil ?_
          refine ga_next (hS.pre 1) fun hK => ?_
          refine ga_take 2 rfl rfl rfl rfl (by kernel_rfl) (fun _ _ _ _ _ h => h) hK (fun w1 hS => op_buildG rfl plan49 rfl rfl) ?_
          refine ga_one 4 (by kernel_rfl) rfl ?_
          refine gl_storeM 2 hS el49 rfl rfl rfl rfl rfl rfl rfl rfl rfl fun wlaw_go_309 hS => ?_
          refine gl_nil ?_
          refine ga_next (hS.pre 1) fun hK => ?_
          refine ga_done (by kernel_rfl) ?_
          intro a ha
          first
            | exact ⟨g84, g85, g13, ha.sub ⟨rfl, rfl, rfl, trivial⟩, hS⟩
            | exact ⟨g84, g85, g13, ha.sub ⟨rfl, rfl, rfl, trivial⟩, (hS.permute (.cons _ (p_bac _ _ _)))⟩
            | exact ⟨g84, g85, g13, ha.sub ⟨rfl, rfl, rfl, trivial⟩, (hS.permute (.cons _ (p_acb _ _ _)))⟩
            | exact ⟨g84, g85, g13, ha.sub ⟨rfl, rfl, rfl, trivial⟩, (hS.permute (.cons _ (p_bca _ _ _)))⟩
            | exact ⟨g84, g85, g13, ha.sub ⟨rfl, rfl, rfl, trivial⟩, (hS.permute (.cons _ (p_cab _ _ _)))⟩
            | exact ⟨g84, g85, g13, ha.sub ⟨rfl, rfl, rfl, trivial⟩, (hS.permute (.cons _ (p_cba _ _ _)))⟩
      · skip
        refine gl_make hT hS el46 rfl rfl rfl rfl rfl rfl rfl (by decide) (by decide) fun g85 w85 hS => ?_
        rw [made_fl] at hS
        refine gl_nil ?_
        refine ga_next (hS.pre 1) fun hK => ?_
        refine ga_two 0 3 (by kernel_rfl) rfl rfl ?_ ?_
        · skip
          refine gl_make hT hS el46 rfl rfl rfl rfl rfl rfl rfl (by decide) (by decide) fun g84 w84 hS => ?_
          rw [made_fl] at hS
          refine gl_nil ?_
          refine ga_next (hS.pre 1) fun hK => ?_
          refine ga_take 2 rfl rfl rfl rfl (by kernel_rfl) (fun _ _ _ _ _ h => h) hK (fun w1 hS => op_buildG rfl plan49 rfl rfl) ?_
          refine ga_one 3 (by kernel_rfl) rfl ?_
          refine gl_alloc el49 hS rfl rfl rfl rfl fun g13 w13 hS => ?_
          refine gl_nil ?_
          refine ga_next (hS.pre 1) fun hK => ?_
          refine ga_one 4 (by kernel_rfl) rfl ?_
          refine gl_storeM 3 hS el49 rfl rfl rfl rfl rfl rfl rfl rfl rfl fun wlaw_go_309 hS => ?_
          refine gl_nil ?_
          refine ga_next (hS.pre 1) fun hK => ?_
          refine ga_done (by kernel_rfl) ?_
          intro a ha
          first
            | exact ⟨g84, g85, g13, ha.sub ⟨rfl, rfl, rfl, trivial⟩, hS⟩
            | exact ⟨g84, g85, g13, ha.sub ⟨rfl, rfl, rfl, trivial⟩, (hS.permute (.cons _ (p_bac _ _ _)))⟩
            | exact ⟨g84, g85, g13, ha.sub ⟨rfl, rfl, rfl, trivial⟩, (hS.permute (.cons _ (p_acb _ _ _)))⟩
            | exact ⟨g84, g85, g13, ha.sub ⟨rfl, rfl, rfl, trivial⟩, (hS.permute (.cons _ (p_bca _ _ _)))⟩
            | exact ⟨g84, g85, g13, ha.sub ⟨rfl, rfl, rfl, trivial⟩, (hS.permute (.cons _ (p_cab _ _ _)))⟩
            | exact ⟨g84, g85, g13, ha.sub ⟨rfl, rfl, rfl, trivial⟩, (hS.permute (.cons _ (p_cba _ _ _)))⟩
        · skip
          refine gl_alloc el49 hS rfl rfl rfl rfl fun g13 w13 hS => ?_
          refine gl_nil ?_
          refine ga_next (hS.pre 1) fun hK => ?_
          refine ga_one 0 (by kernel_rfl) rfl ?_
          refine gl_make hT hS el46 rfl rfl rfl rfl rfl rfl rfl (by decide) (by decide) fun g84 w84 hS => ?_
          rw [made_fl] at hS
          refine gl_nil ?_
          refine ga_next (hS.pre 1) fun hK => ?_
          refine ga_take 2 rfl rfl rfl rfl (by kernel_rfl) (fun _ _ _ _ _ h => h) hK (fun w1 hS => op_buildG rfl plan49 rfl rfl) ?_
          refine ga_one 4 (by kernel_rfl) rfl ?_
          refine gl_storeM 2 hS el49 rfl rfl rfl rfl rfl rfl rfl rfl rfl fun wlaw_go_309 hS => ?_
          refine gl_nil ?_
          refine ga_next (hS.pre 1) fun hK => ?_
          refine ga_done (by kernel_rfl) ?_
          intro a ha
          first
            | exact ⟨g84, g85, g13, ha.sub ⟨rfl, rfl, rfl, trivial⟩, hS⟩
            | exact ⟨g84, g85, g13, ha.sub ⟨rfl, rfl, rfl, trivial⟩, (hS.permute (.cons _ (p_bac _ _ _)))⟩
            | exact ⟨g84, g85, g13, ha.sub ⟨rfl, rfl, rfl, trivial⟩, (hS.permute (.cons _ (p_acb _ _ _)))⟩
            | exact ⟨g84, g85, g13, ha.sub ⟨rfl, rfl, rfl, trivial⟩, (hS.permute (.cons _ (p_bca _ _ _)))⟩
            | exact ⟨g84, g85, g13, ha.sub ⟨rfl, rfl, rfl, trivial⟩, (hS.permute (.cons _ (p_cab _ _ _)))⟩
            | exact ⟨g84, g85, g13, ha.sub ⟨rfl, rfl, rfl, trivial⟩, (hS.permute (.cons _ (p_cba _ _ _)))⟩
      · skip
        refine gl_alloc el49 hS rfl rfl rfl rfl fun g13 w13 hS => ?_
        refine gl_nil ?_
        refine ga_next (hS.pre 1) fun hK => ?_
        refine ga_two 0 1 (by kernel_rfl) rfl rfl ?_ ?_
        · skip
          refine gl_make hT hS el46 rfl rfl rfl rfl rfl rfl rfl (by decide) (by decide) fun g84 w84 hS => ?_
          rw [made_fl] at hS
          refine gl_nil ?_
          refine ga_next (hS.pre 1) fun hK => ?_
          refine ga_one 1 (by kernel_rfl) rfl ?_
          refine gl_make hT hS el46 rfl rfl rfl rfl rfl rfl rfl (by decide) (by decide) fun g85 w85 hS => ?_
          rw [made_fl] at hS
          refine gl_nil ?_
          refine ga_next (hS.pre 1) fun hK => ?_
          refine ga_take 2 rfl rfl rfl rfl (by kernel_rfl) (fun _ _ _ _ _ h => h) hK (fun w1 hS => op_buildG rfl plan49 rfl rfl) ?_
          refine ga_one 4 (by kernel_rfl) rfl ?_
          refine gl_storeM 1 hS el49 rfl rfl rfl rfl rfl rfl rfl rfl rfl fun wlaw_go_309 hS => ?_
          refine gl_nil ?_
          refine ga_next (hS.pre 1) fun hK => ?_
          refine ga_done (by kernel_rfl) ?_
          intro a ha
          first
            | exact ⟨g84, g85, g13, ha.sub ⟨rfl, rfl, rfl, trivial⟩, hS⟩
            | exact ⟨g84, g85, g13, ha.sub ⟨rfl, rfl, rfl, trivial⟩, (hS.permute (.cons _ (p_bac _ _ _)))⟩
            | exact ⟨g84, g85, g13, ha.sub ⟨rfl, rfl, rfl, trivial⟩, (hS.permute (.cons _ (p_acb _ _ _)))⟩
            | exact ⟨g84, g85, g13, ha.sub ⟨rfl, rfl, rfl, trivial⟩, (hS.permute (.cons _ (p_bca _ _ _)))⟩
            | exact ⟨g84, g85, g13, ha.sub ⟨rfl, rfl, rfl, trivial⟩, (hS.permute (.cons _ (p_cab _ _ _)))⟩
            | exact ⟨g84, g85, g13, ha.sub ⟨rfl, rfl, rfl, trivial⟩, (hS.permute (.cons _ (p_cba _ _ _)))⟩
        · skip
          refine gl_make hT hS el46 rfl rfl rfl rfl rfl rfl rfl (by decide) (by decide) fun g85 w85 hS => ?_
          rw [made_fl] at hS
          refine gl_nil ?_
          refine ga_next (hS.pre 1) fun hK => ?_
          refine ga_one 0 (by kernel_rfl) rfl ?_
          refine gl_make hT hS el46 rfl rfl rfl rfl rfl rfl rfl (by decide) (by decide) fun g84 w84 hS => ?_
          rw [made_fl] at hS
          refine gl_nil ?_
          refine ga_next (hS.pre 1) fun hK => ?_
          refine ga_take 2 rfl rfl rfl rfl (by kernel_rfl) (fun _ _ _ _ _ h => h) hK (fun w1 hS => op_buildG rfl plan49 rfl rfl) ?_
          refine ga_one 4 (by kernel_rfl) rfl ?_
          refine gl_storeM 1 hS el49 rfl rfl rfl rfl rfl rfl rfl rfl rfl fun wlaw_go_309 hS => ?_
          refine gl_nil ?_
          refine ga_next (hS.pre 1) fun hK => ?_
          refine ga_done (by kernel_rfl) ?_
          intro a ha
          first
            | exact ⟨g84, g85, g13, ha.sub ⟨rfl, rfl, rfl, trivial⟩, hS⟩
            | exact ⟨g84, g85, g13, ha.sub ⟨rfl, rfl, rfl, trivial⟩, (hS.permute (.cons _ (p_bac _ _ _)))⟩
            | exact ⟨g84, g85, g13, ha.sub ⟨rfl, rfl, rfl, trivial⟩, (hS.permute (.cons _ (p_acb _ _ _)))⟩
            | exact ⟨g84, g85, g13, ha.sub ⟨rfl, rfl, rfl, trivial⟩, (hS.permute (.cons _ (p_bca _ _ _)))⟩
            | exact ⟨g84, g85, g13, ha.sub ⟨rfl, rfl, rfl, trivial⟩, (hS.permute (.cons _ (p_cab _ _ _)))⟩
            | exact ⟨g84, g85, g13, ha.sub ⟨rfl, rfl, rfl, trivial⟩, (hS.permute (.cons _ (p_cba _ _ _)))⟩
    rintro a w1 ⟨g84, g85, g13, hF, hS⟩
    refine gc_of hF ?_
    clear hF
    obtain ⟨k, hk⟩ : ∃ k : Nat, (k : Int) = 1 + n % 256 := ⟨(1 + n % 256).toNat, by omega⟩
    have hk1 : 1 ≤ k ∧ k ≤ 256 := by omega
    refine gc_seq fun K19 hK19 => ?_
    refine gc_region ?_
    refine gl_op rfl rfl rfl (op_pure hT rfl) ?_
    refine gl_op rfl rfl rfl (op_pure hT rfl) ?_
    refine gl_spell 88 (v := .int .i64 (n % 256)) rfl (by show Value.int .i64 (bits .and .i64 n 255) = _; rw [i64_and255]) ?_
    refine gl_fit hT rfl rfl rfl rfl (by omega) ?_
    refine gl_spell 89 (v := .int .i64 (k : Nat)) rfl (by rw [hk]) ?_
    refine gl_op rfl rfl rfl (op_pure hT rfl) ?_
    refine gl_nil ?_
    refine hK19 _ _ ?_
    clear hK19; try clear K19
    refine gc_cut (fun a w' => ∃ g90 g91 g15, Fr 240 a [(3, .pointer (some ⟨g3, 0, none⟩)), (13, .pointer (some ⟨g13, 0, none⟩)), (14, .int .i64 (k : Nat)), (15, .pointer (some ⟨g15, 0, none⟩))] ∧
    St w.heap.size w w' [.blk g3 42 (shC lnSh), .row (some ⟨g84, 0, none⟩) 65280 46 1 65280 ((List.replicate 65280 0).map fV), .row (some ⟨g85, 0, none⟩) 255 46 1 255 ((List.replicate 255 0).map fV), .blk g13 49 (lxC (limL 255 65280 255 (some ⟨g84, 0, none⟩) (some ⟨g85, 0, none⟩))),
      .row (some ⟨g90, 0, none⟩) 255 46 1 255 ((List.replicate 255 0).map fV), .row (some ⟨g91, 0, none⟩) 1 46 1 1 ((List.replicate 1 0).map fV), .blk g15 49 (lxC (limL 1 255 1 (some ⟨g90, 0, none⟩) (some ⟨g91, 0, none⟩)))]) ?_ ?_
    · skip
      refine gc_anyS hS (by kernel_rfl) rfl fun nq20 hK => ?_
      have hS := hS.dr nq20
      refine ga_three 0 1 3 (by kernel_rfl) rfl rfl rfl ?_ ?_ ?_
      · skip
        refine gl_make hT hS el46 rfl rfl rfl rfl rfl rfl rfl (by decide) (by decide) fun g90 w90 hS => ?_
        rw [made_fl] at hS
        refine gl_nil ?_
        refine ga_next (hS.pre 4) fun hK => ?_
        refine ga_two 1 3 (by kernel_rfl) rfl rfl ?_ ?_
        · skip
          refine gl_make hT hS el46 rfl rfl rfl rfl rfl rfl rfl (by decide) (by decide) fun g91 w91 hS => ?_
          rw [made_fl] at hS
          refine gl_nil ?_
          refine ga_next (hS.pre 4) fun hK => ?_
          refine ga_take 2 rfl rfl rfl rfl (by kernel_rfl) (fun _ _ _ _ _ h => h) hK (fun w1 hS => op_buildG rfl plan49 rfl rfl) ?_
          refine ga_one 3 (by kernel_rfl) rfl ?_
          refine gl_alloc el49 hS rfl rfl rfl rfl fun g15 w15 hS => ?_
          refine gl_nil ?_
          refine ga_next (hS.pre 4) fun hK => ?_
          refine ga_one 4 (by kernel_rfl) rfl ?_
          refine gl_storeM 6 hS el49 rfl rfl rfl rfl rfl rfl rfl rfl rfl fun wlaw_go_311 hS => ?_
          refine gl_nil ?_
          refine ga_next (hS.pre 4) fun hK => ?_
          refine ga_done (by kernel_rfl) ?_
          intro a ha
          first
            | exact ⟨g90, g91, g15, ha.sub ⟨rfl, rfl, rfl, rfl, trivial⟩, hS⟩
            | exact ⟨g90, g91, g15, ha.sub ⟨rfl, rfl, rfl, rfl, trivial⟩, (hS.permute (.cons _ (.cons _ (.cons _ (.cons _ (p_bac _ _ _))))))⟩
            | exact ⟨g90, g91, g15, ha.sub ⟨rfl, rfl, rfl, rfl, trivial⟩, (hS.permute (.cons _ (.cons _ (.cons _ (.cons _ (p_acb _ _ _))))))⟩
            | exact ⟨g90, g91, g15, ha.sub ⟨rfl, rfl, rfl, rfl, trivial⟩, (hS.permute (.cons _ (.cons _ (.cons _ (.cons _ (p_bca _ _ _))))))⟩
            | exact ⟨g90, g91, g15, ha.sub ⟨rfl, rfl, rfl, rfl, trivial⟩, (hS.permute (.cons _ (.cons _ (.cons _ (.cons _ (p_cab _ _ _))))))⟩
            | exact ⟨g90, g91, g15, ha.sub ⟨rfl, rfl, rfl, rfl, trivial⟩, (hS.permute (.cons _ (.cons _ (.cons _ (.cons _ (p_cba _ _ _))))))⟩
        · skip
          refine gl_alloc el49 hS rfl rfl rfl rfl fun g15 w15 hS => ?_
          refine gl_nil ?_
          refine ga_next (hS.pre 4) fun hK => ?_
          refine ga_one 1 (by kernel_rfl) rfl ?_
          refine gl_make hT hS el46 rfl rfl rfl rfl rfl rfl rfl (by decide) (by decide) fun g91 w91 hS => ?_
          rw [made_fl] at hS
          refine gl_nil ?_
          refine ga_next (hS.pre 4) fun hK => ?_
          refine ga_take 2 rfl rfl rfl rfl (by kernel_rfl) (fun _ _ _ _ _ h => h) hK (fun w1 hS => op_buildG rfl plan49 rfl rfl) ?_
          refine ga_one 4 (by kernel_rfl) rfl ?_
          refine gl_storeM 5 hS el49 rfl rfl rfl rfl rfl rfl rfl rfl rfl fun wlaw_go_311 hS => ?_
          refine gl_nil ?_
          refine ga_next (hS.pre 4) fun hK => ?_
          refine ga_done (by kernel_rfl) ?_
          intro a ha
          first
            | exact ⟨g90, g91, g15, ha.sub ⟨rfl, rfl, rfl, rfl, trivial⟩, hS⟩
            | exact ⟨g90, g91, g15, ha.sub ⟨rfl, rfl, rfl, rfl, trivial⟩, (hS.permute (.cons _ (.cons _ (.cons _ (.cons _ (p_bac _ _ _))))))⟩
            | exact ⟨g90, g91, g15, ha.sub ⟨rfl, rfl, rfl, rfl, trivial⟩, (hS.permute (.cons _ (.cons _ (.cons _ (.cons _ (p_acb _ _ _))))))⟩
            | exact ⟨g90, g91, g15, ha.sub ⟨rfl, rfl, rfl, rfl, trivial⟩, (hS.permute (.cons _ (.cons _ (.cons _ (.cons _ (p_bca _ _ _))))))⟩
            | exact ⟨g90, g91, g15, ha.sub ⟨rfl, rfl, rfl, rfl, trivial⟩, (hS.permute (.cons _ (.cons _ (.cons _ (.cons _ (p_cab _ _ _))))))⟩
            | exact ⟨g90, g91, g15, ha.sub ⟨rfl, rfl, rfl, rfl, trivial⟩, (hS.permute (.cons _ (.cons _ (.cons _ (.cons _ (p_cba _ _ _))))))⟩
      · skip
        refine gl_make hT hS el46 rfl rfl rfl rfl rfl rfl rfl (by decide) (by decide) fun g91 w91 hS => ?_
        rw [made_fl] at hS
        refine gl_nil ?_
        refine ga_next (hS.pre 4) fun hK => ?_
        refine ga_two 0 3 (by kernel_rfl) rfl rfl ?_ ?_
        · skip
          refine gl_make hT hS el46 rfl rfl rfl rfl rfl rfl rfl (by decide) (by decide) fun g90 w90 hS => ?_
          rw [made_fl] at hS
          refine gl_nil ?_
          refine ga_next (hS.pre 4) fun hK => ?_
          refine ga_take 2 rfl rfl rfl rfl (by kernel_rfl) (fun _ _ _ _ _ h => h) hK (fun w1 hS => op_buildG rfl plan49 rfl rfl) ?_
          refine ga_one 3 (by kernel_rfl) rfl ?_
          refine gl_alloc el49 hS rfl rfl rfl rfl fun g15 w15 hS => ?_
          refine gl_nil ?_
          refine ga_next (hS.pre 4) fun hK => ?_
          refine ga_one 4 (by kernel_rfl) rfl ?_
          refine gl_storeM 6 hS el49 rfl rfl rfl rfl rfl rfl rfl rfl rfl fun wlaw_go_311 hS => ?_
          refine gl_nil ?_
          refine ga_next (hS.pre 4) fun hK => ?_
          refine ga_done (by kernel_rfl) ?_
          intro a ha
          first
            | exact ⟨g90, g91, g15, ha.sub ⟨rfl, rfl, rfl, rfl, trivial⟩, hS⟩
            | exact ⟨g90, g91, g15, ha.sub ⟨rfl, rfl, rfl, rfl, trivial⟩, (hS.permute (.cons _ (.cons _ (.cons _ (.cons _ (p_bac _ _ _))))))⟩
            | exact ⟨g90, g91, g15, ha.sub ⟨rfl, rfl, rfl, rfl, trivial⟩, (hS.permute (.cons _ (.cons _ (.cons _ (.cons _ (p_acb _ _ _))))))⟩
            | exact ⟨g90, g91, g15, ha.sub ⟨rfl, rfl, rfl, rfl, trivial⟩, (hS.permute (.cons _ (.cons _ (.cons _ (.cons _ (p_bca _ _ _))))))⟩
            | exact ⟨g90, g91, g15, ha.sub ⟨rfl, rfl, rfl, rfl, trivial⟩, (hS.permute (.cons _ (.cons _ (.cons _ (.cons _ (p_cab _ _ _))))))⟩
            | exact ⟨g90, g91, g15, ha.sub ⟨rfl, rfl, rfl, rfl, trivial⟩, (hS.permute (.cons _ (.cons _ (.cons _ (.cons _ (p_cba _ _ _))))))⟩
        · skip
          refine gl_alloc el49 hS rfl rfl rfl rfl fun g15 w15 hS => ?_
          refine gl_nil ?_
          refine ga_next (hS.pre 4) fun hK => ?_
          refine ga_one 0 (by kernel_rfl) rfl ?_
          refine gl_make hT hS el46 rfl rfl rfl rfl rfl rfl rfl (by decide) (by decide) fun g90 w90 hS => ?_
          rw [made_fl] at hS
          refine gl_nil ?_
          refine ga_next (hS.pre 4) fun hK => ?_
          refine ga_take 2 rfl rfl rfl rfl (by kernel_rfl) (fun _ _ _ _ _ h => h) hK (fun w1 hS => op_buildG rfl plan49 rfl rfl) ?_
          refine ga_one 4 (by kernel_rfl) rfl ?_
          refine gl_storeM 5 hS el49 rfl rfl rfl rfl rfl rfl rfl rfl rfl fun wlaw_go_311 hS => ?_
          refine gl_nil ?_
          refine ga_next (hS.pre 4) fun hK => ?_
          refine ga_done (by kernel_rfl) ?_
          intro a ha
          first
            | exact ⟨g90, g91, g15, ha.sub ⟨rfl, rfl, rfl, rfl, trivial⟩, hS⟩
            | exact ⟨g90, g91, g15, ha.sub ⟨rfl, rfl, rfl, rfl, trivial⟩, (hS.permute (.cons _ (.cons _ (.cons _ (.cons _ (p_bac _ _ _))))))⟩
            | exact ⟨g90, g91, g15, ha.sub ⟨rfl, rfl, rfl, rfl, trivial⟩, (hS.permute (.cons _ (.cons _ (.cons _ (.cons _ (p_acb _ _ _))))))⟩
            | exact ⟨g90, g91, g15, ha.sub ⟨rfl, rfl, rfl, rfl, trivial⟩, (hS.permute (.cons _ (.cons _ (.cons _ (.cons _ (p_bca _ _ _))))))⟩
            | exact ⟨g90, g91, g15, ha.sub ⟨rfl, rfl, rfl, rfl, trivial⟩, (hS.permute (.cons _ (.cons _ (.cons _ (.cons _ (p_cab _ _ _))))))⟩
            | exact ⟨g90, g91, g15, ha.sub ⟨rfl, rfl, rfl, rfl, trivial⟩, (hS.permute (.cons _ (.cons _ (.cons _ (.cons _ (p_cba _ _ _))))))⟩
      · skip
        refine gl_alloc el49 hS rfl rfl rfl rfl fun g15 w15 hS => ?_
        refine gl_nil ?_
        refine ga_next (hS.pre 4) fun hK => ?_
        refine ga_two 0 1 (by kernel_rfl) rfl rfl ?_ ?_
        · skip
          refine gl_make hT hS el46 rfl rfl rfl rfl rfl rfl rfl (by decide) (by decide) fun g90 w90 hS => ?_
          rw [made_fl] at hS
          refine gl_nil ?_
          refine ga_next (hS.pre 4) fun hK => ?_
          refine ga_one 1 (by kernel_rfl) rfl ?_
          refine gl_make hT hS el46 rfl rfl rfl rfl rfl rfl rfl (by decide) (by decide) fun g91 w91 hS => ?_
          rw [made_fl] at hS
          refine gl_nil ?_
          refine ga_next (hS.pre 4) fun hK => ?_
          refine ga_take 2 rfl rfl rfl rfl (by kernel_rfl) (fun _ _ _ _ _ h => h) hK (fun w1 hS => op_buildG rfl plan49 rfl rfl) ?_
          refine ga_one 4 (by kernel_rfl) rfl ?_
          refine gl_storeM 4 hS el49 rfl rfl rfl rfl rfl rfl rfl rfl rfl fun wlaw_go_311 hS => ?_
          refine gl_nil ?_
          refine ga_next (hS.pre 4) fun hK => ?_
          refine ga_done (by kernel_rfl) ?_
          intro a ha
          first
            | exact ⟨g90, g91, g15, ha.sub ⟨rfl, rfl, rfl, rfl, trivial⟩, hS⟩
            | exact ⟨g90, g91, g15, ha.sub ⟨rfl, rfl, rfl, rfl, trivial⟩, (hS.permute (.cons _ (.cons _ (.cons _ (.cons _ (p_bac _ _ _))))))⟩
            | exact ⟨g90, g91, g15, ha.sub ⟨rfl, rfl, rfl, rfl, trivial⟩, (hS.permute (.cons _ (.cons _ (.cons _ (.cons _ (p_acb _ _ _))))))⟩
            | exact ⟨g90, g91, g15, ha.sub ⟨rfl, rfl, rfl, rfl, trivial⟩, (hS.permute (.cons _ (.cons _ (.cons _ (.cons _ (p_bca _ _ _))))))⟩
            | exact ⟨g90, g91, g15, ha.sub ⟨rfl, rfl, rfl, rfl, trivial⟩, (hS.permute (.cons _ (.cons _ (.cons _ (.cons _ (p_cab _ _ _))))))⟩
            | exact ⟨g90, g91, g15, ha.sub ⟨rfl, rfl, rfl, rfl, trivial⟩, (hS.permute (.cons _ (.cons _ (.cons _ (.cons _ (p_cba _ _ _))))))⟩
        · skip
          refine gl_make hT hS el46 rfl rfl rfl rfl rfl rfl rfl (by decide) (by decide) fun g91 w91 hS => ?_
          rw [made_fl] at hS
          refine gl_nil ?_
          refine ga_next (hS.pre 4) fun hK => ?_
          refine ga_one 0 (by kernel_rfl) rfl ?_
          refine gl_make hT hS el46 rfl rfl rfl rfl rfl rfl rfl (by decide) (by decide) fun g90 w90 hS => ?_
          rw [made_fl] at hS
          refine gl_nil ?_
          refine ga_next (hS.pre 4) fun hK => ?_
          refine ga_take 2 rfl rfl rfl rfl (by kernel_rfl) (fun _ _ _ _ _ h => h) hK (fun w1 hS => op_buildG rfl plan49 rfl rfl) ?_
          refine ga_one 4 (by kernel_rfl) rfl ?_
          refine gl_storeM 4 hS el49 rfl rfl rfl rfl rfl rfl rfl rfl rfl fun wlaw_go_311 hS => ?_
          refine gl_nil ?_
          refine ga_next (hS.pre 4) fun hK => ?_
          refine ga_done (by kernel_rfl) ?_
          intro a ha
          first
            | exact ⟨g90, g91, g15, ha.sub ⟨rfl, rfl, rfl, rfl, trivial⟩, hS⟩
            | exact ⟨g90, g91, g15, ha.sub ⟨rfl, rfl, rfl, rfl, trivial⟩, (hS.permute (.cons _ (.cons _ (.cons _ (.cons _ (p_bac _ _ _))))))⟩
            | exact ⟨g90, g91, g15, ha.sub ⟨rfl, rfl, rfl, rfl, trivial⟩, (hS.permute (.cons _ (.cons _ (.cons _ (.cons _ (p_acb _ _ _))))))⟩
            | exact ⟨g90, g91, g15, ha.sub ⟨rfl, rfl, rfl, rfl, trivial⟩, (hS.permute (.cons _ (.cons _ (.cons _ (.cons _ (p_bca _ _ _))))))⟩
            | exact ⟨g90, g91, g15, ha.sub ⟨rfl, rfl, rfl, rfl, trivial⟩, (hS.permute (.cons _ (.cons _ (.cons _ (.cons _ (p_cab _ _ _))))))⟩
            | exact ⟨g90, g91, g15, ha.sub ⟨rfl, rfl, rfl, rfl, trivial⟩, (hS.permute (.cons _ (.cons _ (.cons _ (.cons _ (p_cba _ _ _))))))⟩
    rintro a w1 ⟨g90, g91, g15, hF, hS⟩
    refine gc_of hF ?_
    clear hF
    refine gc_seq fun K20 hK20 => ?_
    refine gc_region ?_
    refine gl_op rfl rfl rfl (op_loadG 0 Tryd.underlying42 rfl el42 hS rfl rfl rfl rfl rfl) ?_
    refine gl_op rfl rfl rfl (op_loadG 3 Tryd.underlying49 rfl el49 hS rfl rfl rfl rfl rfl) ?_
    refine gl_op rfl rfl rfl (op_loadG 6 Tryd.underlying49 rfl el49 hS rfl rfl rfl rfl rfl) ?_
    refine gl_lit2 hT hS el49 rfl rfl rfl rfl rfl rfl rfl rfl rfl (by decide) fun g97 w97 hS => ?_
    refine gl_op rfl rfl rfl (op_buildG rfl plan53 rfl rfl) ?_
    have hrA : RdE _ All fV (some ⟨g84, 0, none⟩) (List.replicate 65280 0) := RdE.ofRow (hS.at (i := 1) rfl) List.length_replicate
    have hrB : RdE _ All fV (some ⟨g85, 0, none⟩) (List.replicate 255 0) := RdE.ofRow (hS.at (i := 2) rfl) List.length_replicate
    have hrC : RdE _ All fV (some ⟨g90, 0, none⟩) (List.replicate 255 0) := RdE.ofRow (hS.at (i := 4) rfl) List.length_replicate
    have hrD : RdE _ All fV (some ⟨g91, 0, none⟩) (List.replicate 1 0) := RdE.ofRow (hS.at (i := 5) rfl) List.length_replicate
    have hD2 := two_lyM hrA hrB hrC hrD
    refine gl_callf rfl rfl rfl rfl Tryd.func15 rfl rfl rfl (check_calls lnSh (some ⟨g97, 0, none⟩) 2 [limL 255 65280 255 (some ⟨g84, 0, none⟩) (some ⟨g85, 0, none⟩), limL 1 255 1 (some ⟨g90, 0, none⟩) (some ⟨g91, 0, none⟩)] _ lnSh_ok ⟨hS.rd (i := 7) rfl, fun _ => rfl⟩ hD2) ?_
    rintro _ w99 ⟨rfl, hb99⟩
    refine ⟨_, rfl, ?_⟩
    have hS := hS.grown hb99
    rw [lim_two]
    refine gl_op rfl rfl rfl (op_pure hT rfl) ?_
    refine gl_op rfl rfl rfl (op_pure hT rfl) ?_
    refine gl_op rfl rfl rfl (op_pure hT rfl) ?_
    refine gl_op rfl rfl rfl (op_pure hT rfl) ?_
    refine gl_op rfl rfl rfl (op_pure hT rfl) ?_
    refine gl_nil ?_
    refine hK20 _ _ ?_
    clear hK20; try clear K20
    refine gc_seq fun K21 hK21 => ?_
    refine gc_seq fun K22 hK22 => ?_
    refine gc_region ?_
    refine gl_op rfl rfl rfl (op_pure hT rfl) ?_
    refine gl_op rfl rfl rfl (op_pure hT rfl) ?_
    refine gl_op rfl rfl rfl (op_pure hT rfl) ?_
    refine gl_un rfl rfl rfl rfl ?_
    refine gl_op rfl rfl rfl (op_pure hT rfl) ?_
    refine gl_un rfl rfl rfl rfl ?_
    refine gl_op rfl rfl rfl (op_pure hT rfl) ?_
    refine gl_op rfl rfl rfl (op_pure hT rfl) ?_
    refine gl_nil ?_
    refine hK22 _ _ ?_
    clear hK22; try clear K22
    refine gc_cond_f rfl ?_
    refine gc_skip ?_
    refine hK21 _ _ ?_
    clear hK21; try clear K21
    refine gc_seq fun K23 hK23 => ?_
    refine gc_region ?_
    refine gl_op rfl rfl rfl (op_loadG 0 Tryd.underlying42 rfl el42 hS rfl rfl rfl rfl rfl) ?_
    refine gl_op rfl rfl rfl (op_loadG 3 Tryd.underlying49 rfl el49 hS rfl rfl rfl rfl rfl) ?_
    refine gl_litS hT hS el49 rfl rfl rfl rfl rfl rfl rfl (by decide) fun g111 w111 hS => ?_
    refine gl_op rfl rfl rfl (op_buildG rfl plan53 rfl rfl) ?_
    have hrA2 : RdE _ All fV (some ⟨g84, 0, none⟩) (List.replicate 65280 0) := RdE.ofRow (hS.at (i := 1) rfl) List.length_replicate
    have hrB2 : RdE _ All fV (some ⟨g85, 0, none⟩) (List.replicate 255 0) := RdE.ofRow (hS.at (i := 2) rfl) List.length_replicate
    have hD3 := one_lyM hrA2 hrB2
    refine gl_callf rfl rfl rfl rfl Tryd.func15 rfl rfl rfl (check_calls lnSh (some ⟨g111, 0, none⟩) 1 [limL 255 65280 255 (some ⟨g84, 0, none⟩) (some ⟨g85, 0, none⟩)] _ lnSh_ok ⟨hS.rd (i := 8) rfl, fun _ => rfl⟩ hD3) ?_
    rintro _ w113 ⟨rfl, hb113⟩
    refine ⟨_, rfl, ?_⟩
    have hS := hS.grown hb113
    rw [lim_one]
    refine gl_op rfl rfl rfl (op_pure hT rfl) ?_
    refine gl_op rfl rfl rfl (op_pure hT rfl) ?_
    refine gl_op rfl rfl rfl (op_pure hT rfl) ?_
    refine gl_op rfl rfl rfl (op_pure hT rfl) ?_
    refine gl_op rfl rfl rfl (op_pure hT rfl) ?_
    refine gl_nil ?_
    refine hK23 _ _ ?_
    clear hK23; try clear K23
    refine gc_cut (fun a w' => Fr 240 a [(14, .int .i64 (k : Nat))] ∧ St w.heap.size w w' []) ?_ ?_
    · skip
      refine gc_seq fun K24 hK24 => ?_
      refine gc_region ?_
      refine gl_op rfl rfl rfl (op_pure hT rfl) ?_
      refine gl_op rfl rfl rfl (op_pure hT rfl) ?_
      refine gl_op rfl rfl rfl (op_pure hT rfl) ?_
      refine gl_un rfl rfl rfl rfl ?_
      refine gl_op rfl rfl rfl (op_pure hT rfl) ?_
      refine gl_un rfl rfl rfl rfl ?_
      refine gl_op rfl rfl rfl (op_pure hT rfl) ?_
      refine gl_op rfl rfl rfl (op_pure hT rfl) ?_
      refine gl_op rfl rfl rfl (op_pure hT rfl) ?_
      refine gl_un rfl rfl rfl rfl ?_
      refine gl_op rfl rfl rfl (op_loadG 3 Tryd.underlying49 rfl el49 hS rfl rfl rfl rfl rfl) ?_
      refine gl_un rfl rfl rfl rfl ?_
      refine gl_op rfl rfl rfl (op_loadG 6 Tryd.underlying49 rfl el49 hS rfl rfl rfl rfl rfl) ?_
      refine gl_un rfl rfl rfl rfl ?_
      refine gl_lit2 hT hS el49 rfl rfl rfl rfl rfl rfl rfl rfl rfl (by decide) fun g125 w125 hS => ?_
      refine gl_un rfl rfl rfl rfl ?_
      refine gl_op rfl rfl rfl (op_buildG rfl plan53 rfl rfl) ?_
      refine gl_un rfl rfl rfl rfl ?_
      have hrA4 : RdE _ All fV (some ⟨g84, 0, none⟩) (List.replicate 65280 0) := RdE.ofRow (hS.at (i := 1) rfl) List.length_replicate
      have hrB4 : RdE _ All fV (some ⟨g85, 0, none⟩) (List.replicate 255 0) := RdE.ofRow (hS.at (i := 2) rfl) List.length_replicate
      have hrC4 : RdE _ All fV (some ⟨g90, 0, none⟩) (List.replicate 255 0) := RdE.ofRow (hS.at (i := 4) rfl) List.length_replicate
      have hrD4 : RdE _ All fV (some ⟨g91, 0, none⟩) (List.replicate 1 0) := RdE.ofRow (hS.at (i := 5) rfl) List.length_replicate
      have hD4 := two_lyM hrA4 hrB4 hrC4 hrD4
      refine gl_callf rfl rfl rfl rfl Tryd.func16 rfl rfl rfl (weightsAll_calls ⟨0, 0, 0⟩ (some ⟨g125, 0, none⟩) 2 [limL 255 65280 255 (some ⟨g84, 0, none⟩) (some ⟨g85, 0, none⟩), limL 1 255 1 (some ⟨g90, 0, none⟩) (some ⟨g91, 0, none⟩)] _ ⟨hS.rd (i := 9) rfl, fun _ => rfl⟩ hD4 (show 2 ≤ 70 by decide)) ?_
      rintro _ w127 ⟨rfl, hb127⟩
      refine ⟨_, rfl, ?_⟩
      have hS := hS.grown hb127
      rw [lim_sum]
      refine gl_un rfl rfl rfl rfl ?_
      refine gl_op rfl rfl rfl (op_pure hT rfl) ?_
      refine gl_op rfl rfl rfl (op_pure hT rfl) ?_
      refine gl_nil ?_
      refine hK24 _ _ ?_
      clear hK24; try clear K24
      refine gc_cond_f rfl ?_
      refine gc_skip ?_
      intro a ha
      exact ⟨ha.sub ⟨rfl, trivial⟩, hS.pre 0⟩
    rintro a w1 ⟨hF, hS⟩
    refine gc_of hF ?_
    clear hF
    refine gc_cut (fun a w' => ∃ g131 g132 g16, Fr 240 a [(14, .int .i64 (k : Nat)), (16, .pointer (some ⟨g16, 0, none⟩))] ∧
    St w.heap.size w w' [.row (some ⟨g131, 0, none⟩) k 46 1 k ((List.replicate k 0).map fV), .blk g132 24 (madeCells #[svV lnS] (64 * 1)).toList, .blk g16 27 (propC (some ⟨g131, 0, none⟩, k, k) lnS (some ⟨g132, 0, none⟩, 64, 64) (limP k 0 0 8 8 1024))]) ?_ ?_
    · skip
      refine gc_anyS hS (by kernel_rfl) rfl fun nq27 hK => ?_
      have hS := hS.dr nq27
      refine ga_take 0 rfl rfl rfl rfl (by kernel_rfl) (fun _ _ _ _ _ h => h) hK (fun w1 hS => op_pure hT rfl) ?_
      refine ga_three 1 2 4 (by kernel_rfl) rfl rfl rfl ?_ ?_ ?_
      · skip
        refine gl_make (n := k) hT hS el46 rfl rfl rfl rfl rfl rfl rfl (by omega) (by omega) fun g131 w131 hS => ?_
        rw [made_fl] at hS
        refine gl_nil ?_
        refine ga_next (hS.pre 0) fun hK => ?_
        refine ga_two 2 4 (by kernel_rfl) rfl rfl ?_ ?_
        · skip
          refine gl_makeB (n := 64) hT hS el24 rfl rfl rfl rfl rfl rfl rfl (by decide) (by decide) fun g132 w132 hS => ?_
          refine gl_nil ?_
          refine ga_next (hS.pre 0) fun hK => ?_
          refine ga_take 3 rfl rfl rfl rfl (by kernel_rfl) (fun _ _ _ _ _ h => h) hK (fun w1 hS => op_buildG rfl plan27 rfl rfl) ?_
          refine ga_one 4 (by kernel_rfl) rfl ?_
          refine gl_alloc el27 hS rfl rfl rfl rfl fun g16 w16 hS => ?_
          refine gl_nil ?_
          refine ga_next (hS.pre 0) fun hK => ?_
          refine ga_one 5 (by kernel_rfl) rfl ?_
          refine gl_storeM 2 hS el27 rfl rfl rfl rfl rfl rfl rfl rfl rfl fun wlaw_go_320 hS => ?_
          refine gl_nil ?_
          refine ga_next (hS.pre 0) fun hK => ?_
          refine ga_done (by kernel_rfl) ?_
          intro a ha
          first
            | exact ⟨g131, g132, g16, ha.sub ⟨rfl, rfl, trivial⟩, hS⟩
            | exact ⟨g131, g132, g16, ha.sub ⟨rfl, rfl, trivial⟩, (hS.permute (p_bac _ _ _))⟩
            | exact ⟨g131, g132, g16, ha.sub ⟨rfl, rfl, trivial⟩, (hS.permute (p_acb _ _ _))⟩
            | exact ⟨g131, g132, g16, ha.sub ⟨rfl, rfl, trivial⟩, (hS.permute (p_bca _ _ _))⟩
            | exact ⟨g131, g132, g16, ha.sub ⟨rfl, rfl, trivial⟩, (hS.permute (p_cab _ _ _))⟩
            | exact ⟨g131, g132, g16, ha.sub ⟨rfl, rfl, trivial⟩, (hS.permute (p_cba _ _ _))⟩
        · skip
          refine gl_alloc el27 hS rfl rfl rfl rfl fun g16 w16 hS => ?_
          refine gl_nil ?_
          refine ga_next (hS.pre 0) fun hK => ?_
          refine ga_one 2 (by kernel_rfl) rfl ?_
          refine gl_makeB (n := 64) hT hS el24 rfl rfl rfl rfl rfl rfl rfl (by decide) (by decide) fun g132 w132 hS => ?_
          refine gl_nil ?_
          refine ga_next (hS.pre 0) fun hK => ?_
          refine ga_take 3 rfl rfl rfl rfl (by kernel_rfl) (fun _ _ _ _ _ h => h) hK (fun w1 hS => op_buildG rfl plan27 rfl rfl) ?_
          refine ga_one 5 (by kernel_rfl) rfl ?_
          refine gl_storeM 1 hS el27 rfl rfl rfl rfl rfl rfl rfl rfl rfl fun wlaw_go_320 hS => ?_
          refine gl_nil ?_
          refine ga_next (hS.pre 0) fun hK => ?_
          refine ga_done (by kernel_rfl) ?_
          intro a ha
          first
            | exact ⟨g131, g132, g16, ha.sub ⟨rfl, rfl, trivial⟩, hS⟩
            | exact ⟨g131, g132, g16, ha.sub ⟨rfl, rfl, trivial⟩, (hS.permute (p_bac _ _ _))⟩
            | exact ⟨g131, g132, g16, ha.sub ⟨rfl, rfl, trivial⟩, (hS.permute (p_acb _ _ _))⟩
            | exact ⟨g131, g132, g16, ha.sub ⟨rfl, rfl, trivial⟩, (hS.permute (p_bca _ _ _))⟩
            | exact ⟨g131, g132, g16, ha.sub ⟨rfl, rfl, trivial⟩, (hS.permute (p_cab _ _ _))⟩
            | exact ⟨g131, g132, g16, ha.sub ⟨rfl, rfl, trivial⟩, (hS.permute (p_cba _ _ _))⟩
      · skip
        refine gl_makeB (n := 64) hT hS el24 rfl rfl rfl rfl rfl rfl rfl (by decide) (by decide) fun g132 w132 hS => ?_
        refine gl_nil ?_
        refine ga_next (hS.pre 0) fun hK => ?_
        refine ga_two 1 4 (by kernel_rfl) rfl rfl ?_ ?_
        · skip
          refine gl_make (n := k) hT hS el46 rfl rfl rfl rfl rfl rfl rfl (by omega) (by omega) fun g131 w131 hS => ?_
          rw [made_fl] at hS
          refine gl_nil ?_
          refine ga_next (hS.pre 0) fun hK => ?_
          refine ga_take 3 rfl rfl rfl rfl (by kernel_rfl) (fun _ _ _ _ _ h => h) hK (fun w1 hS => op_buildG rfl plan27 rfl rfl) ?_
          refine ga_one 4 (by kernel_rfl) rfl ?_
          refine gl_alloc el27 hS rfl rfl rfl rfl fun g16 w16 hS => ?_
          refine gl_nil ?_
          refine ga_next (hS.pre 0) fun hK => ?_
          refine ga_one 5 (by kernel_rfl) rfl ?_
          refine gl_storeM 2 hS el27 rfl rfl rfl rfl rfl rfl rfl rfl rfl fun wlaw_go_320 hS => ?_
          refine gl_nil ?_
          refine ga_next (hS.pre 0) fun hK => ?_
          refine ga_done (by kernel_rfl) ?_
          intro a ha
          first
            | exact ⟨g131, g132, g16, ha.sub ⟨rfl, rfl, trivial⟩, hS⟩
            | exact ⟨g131, g132, g16, ha.sub ⟨rfl, rfl, trivial⟩, (hS.permute (p_bac _ _ _))⟩
            | exact ⟨g131, g132, g16, ha.sub ⟨rfl, rfl, trivial⟩, (hS.permute (p_acb _ _ _))⟩
            | exact ⟨g131, g132, g16, ha.sub ⟨rfl, rfl, trivial⟩, (hS.permute (p_bca _ _ _))⟩
            | exact ⟨g131, g132, g16, ha.sub ⟨rfl, rfl, trivial⟩, (hS.permute (p_cab _ _ _))⟩
            | exact ⟨g131, g132, g16, ha.sub ⟨rfl, rfl, trivial⟩, (hS.permute (p_cba _ _ _))⟩
        · skip
          refine gl_alloc el27 hS rfl rfl rfl rfl fun g16 w16 hS => ?_
          refine gl_nil ?_
          refine ga_next (hS.pre 0) fun hK => ?_
          refine ga_one 1 (by kernel_rfl) rfl ?_
          refine gl_make (n := k) hT hS el46 rfl rfl rfl rfl rfl rfl rfl (by omega) (by omega) fun g131 w131 hS => ?_
          rw [made_fl] at hS
          refine gl_nil ?_
          refine ga_next (hS.pre 0) fun hK => ?_
          refine ga_take 3 rfl rfl rfl rfl (by kernel_rfl) (fun _ _ _ _ _ h => h) hK (fun w1 hS => op_buildG rfl plan27 rfl rfl) ?_
          refine ga_one 5 (by kernel_rfl) rfl ?_
          refine gl_storeM 1 hS el27 rfl rfl rfl rfl rfl rfl rfl rfl rfl fun wlaw_go_320 hS => ?_
          refine gl_nil ?_
          refine ga_next (hS.pre 0) fun hK => ?_
          refine ga_done (by kernel_rfl) ?_
          intro a ha
          first
            | exact ⟨g131, g132, g16, ha.sub ⟨rfl, rfl, trivial⟩, hS⟩
            | exact ⟨g131, g132, g16, ha.sub ⟨rfl, rfl, trivial⟩, (hS.permute (p_bac _ _ _))⟩
            | exact ⟨g131, g132, g16, ha.sub ⟨rfl, rfl, trivial⟩, (hS.permute (p_acb _ _ _))⟩
            | exact ⟨g131, g132, g16, ha.sub ⟨rfl, rfl, trivial⟩, (hS.permute (p_bca _ _ _))⟩
            | exact ⟨g131, g132, g16, ha.sub ⟨rfl, rfl, trivial⟩, (hS.permute (p_cab _ _ _))⟩
            | exact ⟨g131, g132, g16, ha.sub ⟨rfl, rfl, trivial⟩, (hS.permute (p_cba _ _ _))⟩
      · skip
        refine gl_alloc el27 hS rfl rfl rfl rfl fun g16 w16 hS => ?_
        refine gl_nil ?_
        refine ga_next (hS.pre 0) fun hK => ?_
        refine ga_two 1 2 (by kernel_rfl) rfl rfl ?_ ?_
        · skip
          refine gl_make (n := k) hT hS el46 rfl rfl rfl rfl rfl rfl rfl (by omega) (by omega) fun g131 w131 hS => ?_
          rw [made_fl] at hS
          refine gl_nil ?_
          refine ga_next (hS.pre 0) fun hK => ?_
          refine ga_one 2 (by kernel_rfl) rfl ?_
          refine gl_makeB (n := 64) hT hS el24 rfl rfl rfl rfl rfl rfl rfl (by decide) (by decide) fun g132 w132 hS => ?_
          refine gl_nil ?_
          refine ga_next (hS.pre 0) fun hK => ?_
          refine ga_take 3 rfl rfl rfl rfl (by kernel_rfl) (fun _ _ _ _ _ h => h) hK (fun w1 hS => op_buildG rfl plan27 rfl rfl) ?_
          refine ga_one 5 (by kernel_rfl) rfl ?_
          refine gl_storeM 0 hS el27 rfl rfl rfl rfl rfl rfl rfl rfl rfl fun wlaw_go_320 hS => ?_
          refine gl_nil ?_
          refine ga_next (hS.pre 0) fun hK => ?_
          refine ga_done (by kernel_rfl) ?_
          intro a ha
          first
            | exact ⟨g131, g132, g16, ha.sub ⟨rfl, rfl, trivial⟩, hS⟩
            | exact ⟨g131, g132, g16, ha.sub ⟨rfl, rfl, trivial⟩, (hS.permute (p_bac _ _ _))⟩
            | exact ⟨g131, g132, g16, ha.sub ⟨rfl, rfl, trivial⟩, (hS.permute (p_acb _ _ _))⟩
            | exact ⟨g131, g132, g16, ha.sub ⟨rfl, rfl, trivial⟩, (hS.permute (p_bca _ _ _))⟩
            | exact ⟨g131, g132, g16, ha.sub ⟨rfl, rfl, trivial⟩, (hS.permute (p_cab _ _ _))⟩
            | exact ⟨g131, g132, g16, ha.sub ⟨rfl, rfl, trivial⟩, (hS.permute (p_cba _ _ _))⟩
        · skip
          refine gl_makeB (n := 64) hT hS el24 rfl rfl rfl rfl rfl rfl rfl (by decide) (by decide) fun g132 w132 hS => ?_
          refine gl_nil ?_
          refine ga_next (hS.pre 0) fun hK => ?_
          refine ga_one 1 (by kernel_rfl) rfl ?_
          refine gl_make (n := k) hT hS el46 rfl rfl rfl rfl rfl rfl rfl (by omega) (by omega) fun g131 w131 hS => ?_
          rw [made_fl] at hS
          refine gl_nil ?_
          refine ga_next (hS.pre 0) fun hK => ?_
          refine ga_take 3 rfl rfl rfl rfl (by kernel_rfl) (fun _ _ _ _ _ h => h) hK (fun w1 hS => op_buildG rfl plan27 rfl rfl) ?_
          refine ga_one 5 (by kernel_rfl) rfl ?_
          refine gl_storeM 0 hS el27 rfl rfl rfl rfl rfl rfl rfl rfl rfl fun wlaw_go_320 hS => ?_
          refine gl_nil ?_
          refine ga_next (hS.pre 0) fun hK => ?_
          refine ga_done (by kernel_rfl) ?_
          intro a ha
          first
            | exact ⟨g131, g132, g16, ha.sub ⟨rfl, rfl, trivial⟩, hS⟩
            | exact ⟨g131, g132, g16, ha.sub ⟨rfl, rfl, trivial⟩, (hS.permute (p_bac _ _ _))⟩
            | exact ⟨g131, g132, g16, ha.sub ⟨rfl, rfl, trivial⟩, (hS.permute (p_acb _ _ _))⟩
            | exact ⟨g131, g132, g16, ha.sub ⟨rfl, rfl, trivial⟩, (hS.permute (p_bca _ _ _))⟩
            | exact ⟨g131, g132, g16, ha.sub ⟨rfl, rfl, trivial⟩, (hS.permute (p_cab _ _ _))⟩
            | exact ⟨g131, g132, g16, ha.sub ⟨rfl, rfl, trivial⟩, (hS.permute (p_cba _ _ _))⟩
    rintro a w1 ⟨g131, g132, g16, hF, hS⟩
    refine gc_of hF ?_
    clear hF
    rw [made_one] at hS
    have hS := hS.keep0
    refine gc_seq fun K25 hK25 => ?_
    refine gc_seq fun K26 hK26 => ?_
    refine gc_region ?_
    refine gl_op rfl rfl rfl (op_pure hT rfl) ?_
    refine gl_nil ?_
    refine hK26 _ _ ?_
    clear hK26; try clear K26
    refine gc_block ?_
    refine gc_loop (fun k' a w' => ∃ (j : Nat) (S : List Sv) (ok : Nat → Prop) (wk : World), Fr 240 a [(14, .int .i64 (k : Nat)), (16, .pointer (some ⟨g16, 0, none⟩)), (17, .int .i64 (j : Nat))] ∧ j ≤ 64 ∧ k' = 65 - j ∧ S.length = j ∧ Nul wk ok 2 S ∧
      St w.heap.size w w' [.row (some ⟨g131, 0, none⟩) k 46 1 k ((List.replicate k 0).map fV), .blk g132 24 (S.map svV ++ List.replicate (64 - j) (svV lnS)), .blk g16 27 (propC (some ⟨g131, 0, none⟩, k, k) lnS (some ⟨g132, 0, none⟩, 64, 64) (limP k 0 0 8 8 1024)), .keep ok wk]) 65 ?_ ?_ ?_
    · intro a ha; exact ⟨0, [], _, _, ha.sub ⟨rfl, rfl, rfl, trivial⟩, by omega, by omega, rfl, Nul.nil, hS⟩
    · rintro a w' ⟨j, _, _, _, _, h1, h2, _⟩; omega
    rintro k' a w1 ⟨j, S, ok, wk, hF, hj, hk', hSl, hNu, hS⟩
    refine gc_of hF ?_
    clear hF
    refine gc_seq fun K27 hK27 => ?_
    refine gc_seq fun K28 hK28 => ?_
    refine gc_region ?_
    refine gl_op rfl rfl rfl (op_pure hT rfl) ?_
    refine gl_op rfl rfl rfl (op_pure hT rfl) ?_
    refine gl_nil ?_
    refine hK28 _ _ ?_
    clear hK28; try clear K28
    refine gc_cond rfl rfl (fun c135 => ?_) (fun c135 => ?_)
    · try simp only [decide_eq_true_eq, decide_eq_false_iff_not, Bool.not_eq_true', Bool.not_eq_false', Int.not_lt, Int.not_le, Nat.not_lt, Nat.not_le, Bool.true_eq, Bool.false_eq, reduceCtorEq] at c135
      refine gc_skip ?_
      refine hK27 _ _ ?_
      clear hK27; try clear K27
      refine gc_seq fun K29 hK29 => ?_
      refine gc_block ?_
      refine gc_anyS (hS.blank 1) (by kernel_rfl) rfl fun nq31 hK => ?_
      have hS := hS.dr nq31
      refine ga_take 0 rfl rfl rfl rfl (by kernel_rfl) (fun _ _ _ _ _ h => h) hK (fun w1 hS => op_fieldB 3 rfl Tryd.underlying27 rfl el25 rfl rfl) ?_
      refine ga_take 1 rfl rfl rfl rfl (by kernel_rfl) (fun _ _ _ _ _ h => h) hK (fun w1 hS => op_loadB 2 hT hS rfl rfl rfl rfl rfl rfl) ?_
      refine ga_take 2 rfl rfl rfl rfl (by kernel_rfl) (fun _ _ _ _ _ h => h) hK (fun w1 hS => op_pure hT rfl) ?_
      refine ga_one 3 (by kernel_rfl) rfl ?_
      refine gl_make (n := 2) hT hS el46 rfl rfl rfl rfl rfl rfl rfl (by decide) (by decide) fun g141 w141 hS => ?_
      rw [made_fl] at hS
      refine gl_nil ?_
      refine ga_next ((hS.blank 1).pre 4) fun hK => ?_
      refine ga_take 4 rfl rfl rfl rfl (by kernel_rfl) (fun _ _ _ _ _ h => h) hK (fun w1 hS => op_indexAddr hT rfl rfl el24.cellsOf.1 el24.cellsOf.2 rfl rfl (by omega) (by omega) rfl) ?_
      refine ga_spell 142 (v := .pointer (some ⟨g132, j, none⟩)) rfl (by rw [addB, Int.toNat_natCast, Nat.zero_add, Nat.mul_one]) ?_
      refine ga_one 5 (by kernel_rfl) rfl ?_
      refine gl_store 1 hS el24.cellsOf.1 el24.cellsOf.2 rfl rfl rfl rfl rfl rfl (by rw [List.length_append, List.length_map, List.length_replicate]; exact Nat.ble_eq_true_of_le (by omega)) rfl fun w142 hS => ?_
      refine gl_nil ?_
      refine ga_next ((hS.blank 1).pre 4) fun hK => ?_
      refine ga_done (by kernel_rfl) ?_
      refine hK29 _ _ ?_
      clear hK29; try clear K29
      refine gc_region ?_
      refine gl_op rfl rfl rfl (op_pure hT rfl) ?_
      first | refine gl_fit hT rfl rfl rfl rfl (by omega) ?_ | refine gl_op rfl rfl rfl (op_pure hT rfl) ?_
      refine gl_op rfl rfl rfl (op_pure hT rfl) ?_
      refine gl_nil ?_
      intro a ha
      have hS : St w.heap.size w _ [.row (some ⟨g131, 0, none⟩) k 46 1 k ((List.replicate k 0).map fV), .blk g132 24 ((S.map svV ++ List.replicate (64 - j) (svV lnS)).set j (svV (some ⟨g141, 0, none⟩, 2, 2))), .blk g16 27 (propC (some ⟨g131, 0, none⟩, k, k) lnS (some ⟨g132, 0, none⟩, 64, 64) (limP k 0 0 8 8 1024)), .keep ok wk, .row (some ⟨g141, 0, none⟩) 2 46 1 2 ((List.replicate 2 0).map fV)] := hS
      rw [app_set S _ lnS 64 j hSl (by omega)] at hS
      have hn1 := (Nul.keep hS (i := 3) rfl hNu).weaken (ok' := fun b => It.fp (.keep ok wk) b ∨ It.fp (.row (some ⟨g141, 0, none⟩) 2 46 1 2 ((List.replicate 2 0).map fV)) b) (fun b hb => .inl hb)
      have hn2 : Rd _ (fun b => It.fp (.keep ok wk) b ∨ It.fp (.row (some ⟨g141, 0, none⟩) 2 46 1 2 ((List.replicate 2 0).map fV)) b) (some ⟨g141, 0, none⟩) 2 1 ((List.replicate 2 0).map fV) := Rd.weaken (Owns.rdFp (hS.at (i := 4) rfl)) (fun b hb => .inr hb)
      have hn := hn1.snoc (x := ((some ⟨g141, 0, none⟩, 2, 2) : Sv)) hn2 rfl
      have hS := St.fuse (L := [.row (some ⟨g131, 0, none⟩) k 46 1 k ((List.replicate k 0).map fV), .blk g132 24 ((S ++ [((some ⟨g141, 0, none⟩, 2, 2) : Sv)]).map svV ++ List.replicate (64 - (j + 1)) (svV lnS)), .blk g16 27 (propC (some ⟨g131, 0, none⟩, k, k) lnS (some ⟨g132, 0, none⟩, 64, 64) (limP k 0 0 8 8 1024))]) hS
      exact ⟨j + 1, S ++ [((some ⟨g141, 0, none⟩, 2, 2) : Sv)], fun b => It.fp (.keep ok wk) b ∨ It.fp (.row (some ⟨g141, 0, none⟩) 2 46 1 2 ((List.replicate 2 0).map fV)) b, _, ha.sub ⟨rfl, rfl, rfl, trivial⟩, by omega, by omega, by simp [hSl], hn, hS⟩
    · try simp only [decide_eq_true_eq, decide_eq_false_iff_not, Bool.not_eq_true', Bool.not_eq_false', Int.not_lt, Int.not_le, Nat.not_lt, Nat.not_le, Bool.true_eq, Bool.false_eq, reduceCtorEq] at c135
      have hj64 : j = 64 := by omega
      subst hj64
      have hS : St w.heap.size w _ [.row (some ⟨g131, 0, none⟩) k 46 1 k ((List.replicate k 0).map fV), .blk g132 24 (S.map svV ++ List.replicate (64 - 64) (svV lnS)), .blk g16 27 (propC (some ⟨g131, 0, none⟩, k, k) lnS (some ⟨g132, 0, none⟩, 64, 64) (limP k 0 0 8 8 1024)), .keep ok wk] := hS
      rw [Nat.sub_self, List.replicate_zero, List.append_nil] at hS
      have hS := hS.toRow (i := 1) rfl (n := 64) (by rw [List.length_map, hSl]) (by decide)
      have hS : St w.heap.size w _ [.row (some ⟨g131, 0, none⟩) k 46 1 k ((List.replicate k 0).map fV), .row (some ⟨g132, 0, none⟩) 64 24 1 64 (S.map svV), .blk g16 27 (propC (some ⟨g131, 0, none⟩, k, k) lnS (some ⟨g132, 0, none⟩, 64, 64) (limP k 0 0 8 8 1024)), .keep ok wk] := hS
      have hS := (hS.nil 24 1).permute (.cons _ (.cons _ (.cons _ (.swap ..))))
      refine gc_exit ?_
      refine hK25 _ _ ?_
      clear hK25; try clear K25
      refine gc_seq fun K30 hK30 => ?_
      refine gc_seq fun K31 hK31 => ?_
      refine gc_region ?_
      refine gl_op rfl rfl rfl (op_pure hT rfl) ?_
      refine gl_nil ?_
      refine hK31 _ _ ?_
      clear hK31; try clear K31
      refine gc_block ?_
      refine gc_loop (fun k' a w' => ∃ (j : Nat) (SG : List Sv) (ok : Nat → Prop) (wk : World) (AG : Option Addr) (cG : Nat), Fr 240 a [(14, .int .i64 (k : Nat)), (16, .pointer (some ⟨g16, 0, none⟩)), (18, .int .i64 (j : Nat))] ∧ j ≤ 256 ∧ k' = 257 - j ∧ SG.length = j ∧ Nul wk ok 2 S ∧ Nul wk ok k SG ∧
        St w.heap.size w w' [.row (some ⟨g131, 0, none⟩) k 46 1 k ((List.replicate k 0).map fV), .row (some ⟨g132, 0, none⟩) 64 24 1 64 (S.map svV), .blk g16 27 (propC (some ⟨g131, 0, none⟩, k, k) (AG, j, cG) (some ⟨g132, 0, none⟩, 64, 64) (limP k 0 0 8 8 1024)), .row AG cG 24 1 j (SG.map svV), .keep ok wk]) 257 ?_ ?_ ?_
      · intro a ha; exact ⟨0, [], _, _, none, 0, ha.sub ⟨rfl, rfl, rfl, trivial⟩, by omega, by omega, rfl, hNu, Nul.nil, hS⟩
      · rintro a w' ⟨j, _, _, _, _, _, _, h1, h2, _⟩; omega
      rintro k' a w1 ⟨j, SG, ok, wk, AG, cG, hF, hj, hk', hSGl, hNuS, hNuG, hS⟩
      refine gc_of hF ?_
      clear hF
      refine gc_seq fun K32 hK32 => ?_
      refine gc_seq fun K33 hK33 => ?_
      refine gc_region ?_
      refine gl_op rfl rfl rfl (op_pure hT rfl) ?_
      refine gl_op rfl rfl rfl (op_pure hT rfl) ?_
      refine gl_nil ?_
      refine hK33 _ _ ?_
      clear hK33; try clear K33
      refine gc_cond rfl rfl (fun c144 => ?_) (fun c144 => ?_)
      · try simp only [decide_eq_true_eq, decide_eq_false_iff_not, Bool.not_eq_true', Bool.not_eq_false', Int.not_lt, Int.not_le, Nat.not_lt, Nat.not_le, Bool.true_eq, Bool.false_eq, reduceCtorEq] at c144
        refine gc_skip ?_
        refine hK32 _ _ ?_
        clear hK32; try clear K32
        refine gc_seq fun K34 hK34 => ?_
        refine gc_block ?_
        refine gc_anyS ((hS.blank 2).blank 3) (by kernel_rfl) rfl fun nq35 hK => ?_
        have hS := hS.dr nq35
        refine ga_take 0 rfl rfl rfl rfl (by kernel_rfl) (fun _ _ _ _ _ h => h) hK (fun w1 hS => op_fieldB 1 rfl Tryd.underlying27 rfl el25 rfl rfl) ?_
        refine ga_take 2 rfl rfl rfl rfl (by kernel_rfl) (fun _ _ _ _ _ h => h) hK (fun w1 hS => op_pure hT rfl) ?_
        refine ga_two 1 3 (by kernel_rfl) rfl rfl ?_ ?_
        · skip
          refine gl_op rfl rfl rfl (op_loadB 2 hT hS rfl rfl rfl rfl rfl rfl) ?_
          refine gl_nil ?_
          refine ga_next (((hS.blank 2).blank 3).pre 5) fun hK => ?_
          refine ga_one 3 (by kernel_rfl) rfl ?_
          refine gl_make (n := k) hT hS el46 rfl rfl rfl rfl rfl rfl rfl (by omega) (by omega) fun g150 w150 hS => ?_
          rw [made_fl] at hS
          refine gl_nil ?_
          refine ga_next (((hS.blank 2).blank 3).pre 5) fun hK => ?_
          refine ga_one 4 (by kernel_rfl) rfl ?_
          refine gl_lit hT hS el24 rfl rfl rfl rfl rfl rfl rfl rfl rfl fun g151 w151 hS => ?_
          refine gl_nil ?_
          refine ga_next (((hS.blank 2).blank 3).pre 5) fun hK => ?_
          refine ga_one 5 (by kernel_rfl) rfl ?_
          refine gl_append 3 hT hS el24 (hS.rd (i := 6) rfl) (rfl) rfl rfl rfl rfl rfl rfl rfl rfl (by dsimp only; omega) (by dsimp only; omega) fun A152 c152 w152 hS => ?_
          have hS := hS.erase 6
          refine gl_nil ?_
          refine ga_next (((hS.blank 2).blank 3).pre 5) fun hK => ?_
          refine ga_take 6 rfl rfl rfl rfl (by kernel_rfl) (fun _ _ _ _ _ h => h) hK (fun w1 hS => op_fieldB 1 rfl Tryd.underlying27 rfl el25 rfl rfl) ?_
          refine ga_one 7 (by kernel_rfl) rfl ?_
          refine gl_store 2 hS el25.cellsOf.1 el25.cellsOf.2 rfl rfl rfl rfl rfl rfl rfl rfl fun wlaw_go_325 hS => ?_
          refine gl_nil ?_
          refine ga_next (((hS.blank 2).blank 3).pre 5) fun hK => ?_
          refine ga_done (by kernel_rfl) ?_
          refine hK34 _ _ ?_
          clear hK34; try clear K34
          refine gc_region ?_
          refine gl_op rfl rfl rfl (op_pure hT rfl) ?_
          first | refine gl_fit hT rfl rfl rfl rfl (by omega) ?_ | refine gl_op rfl rfl rfl (op_pure hT rfl) ?_
          refine gl_op rfl rfl rfl (op_pure hT rfl) ?_
          refine gl_nil ?_
          intro a ha
          have hS : St w.heap.size w _ [.row (some ⟨g131, 0, none⟩) k 46 1 k ((List.replicate k 0).map fV), .row (some ⟨g132, 0, none⟩) 64 24 1 64 (S.map svV), .blk g16 27 (propC (some ⟨g131, 0, none⟩, k, k) (A152, j + 1, c152) (some ⟨g132, 0, none⟩, 64, 64) (limP k 0 0 8 8 1024)), .row A152 c152 24 1 (j + 1) (SG.map svV ++ [svV (some ⟨g150, 0, none⟩, k, k)]), .keep ok wk, .row (some ⟨g150, 0, none⟩) k 46 1 k ((List.replicate k 0).map fV)] := hS
          have hm1 : ∀ b, ok b → It.fp (.keep ok wk) b ∨ It.fp (.row (some ⟨g150, 0, none⟩) k 46 1 k ((List.replicate k 0).map fV)) b := fun b hb => .inl hb
          have hn1 := (Nul.keep hS (i := 4) rfl hNuG).weaken hm1
          have hn3 := (Nul.keep hS (i := 4) rfl hNuS).weaken hm1
          have hn2 : Rd _ (fun b => It.fp (.keep ok wk) b ∨ It.fp (.row (some ⟨g150, 0, none⟩) k 46 1 k ((List.replicate k 0).map fV)) b) (some ⟨g150, 0, none⟩) k 1 ((List.replicate k 0).map fV) := Rd.weaken (Owns.rdFp (hS.at (i := 5) rfl)) (fun b hb => .inr hb)
          have hn2' := RdE.ofRd hn2 List.length_replicate
          have hn := hn1.snoc (x := ((some ⟨g150, 0, none⟩, k, k) : Sv)) hn2' rfl
          have hS := St.fuse (L := [.row (some ⟨g131, 0, none⟩) k 46 1 k ((List.replicate k 0).map fV), .row (some ⟨g132, 0, none⟩) 64 24 1 64 (S.map svV), .blk g16 27 (propC (some ⟨g131, 0, none⟩, k, k) (A152, j + 1, c152) (some ⟨g132, 0, none⟩, 64, 64) (limP k 0 0 8 8 1024)), .row A152 c152 24 1 (j + 1) (SG.map svV ++ [svV (some ⟨g150, 0, none⟩, k, k)])]) hS
          refine ⟨j + 1, SG ++ [((some ⟨g150, 0, none⟩, k, k) : Sv)], _, _, A152, c152, ha.sub ⟨rfl, rfl, rfl, trivial⟩, by omega, by omega, by simp [hSGl], hn3, hn, ?_⟩
          rw [List.map_append]
          exact hS
        · skip
          refine gl_make (n := k) hT hS el46 rfl rfl rfl rfl rfl rfl rfl (by omega) (by omega) fun g150 w150 hS => ?_
          rw [made_fl] at hS
          refine gl_nil ?_
          refine ga_next (((hS.blank 2).blank 3).pre 5) fun hK => ?_
          refine ga_two 1 4 (by kernel_rfl) rfl rfl ?_ ?_
          · skip
            refine gl_op rfl rfl rfl (op_loadB 2 hT hS rfl rfl rfl rfl rfl rfl) ?_
            refine gl_nil ?_
            refine ga_next (((hS.blank 2).blank 3).pre 5) fun hK => ?_
            refine ga_one 4 (by kernel_rfl) rfl ?_
            refine gl_lit hT hS el24 rfl rfl rfl rfl rfl rfl rfl rfl rfl fun g151 w151 hS => ?_
            refine gl_nil ?_
            refine ga_next (((hS.blank 2).blank 3).pre 5) fun hK => ?_
            refine ga_one 5 (by kernel_rfl) rfl ?_
            refine gl_append 3 hT hS el24 (hS.rd (i := 6) rfl) (rfl) rfl rfl rfl rfl rfl rfl rfl rfl (by dsimp only; omega) (by dsimp only; omega) fun A152 c152 w152 hS => ?_
            have hS := hS.erase 6
            refine gl_nil ?_
            refine ga_next (((hS.blank 2).blank 3).pre 5) fun hK => ?_
            refine ga_take 6 rfl rfl rfl rfl (by kernel_rfl) (fun _ _ _ _ _ h => h) hK (fun w1 hS => op_fieldB 1 rfl Tryd.underlying27 rfl el25 rfl rfl) ?_
            refine ga_one 7 (by kernel_rfl) rfl ?_
            refine gl_store 2 hS el25.cellsOf.1 el25.cellsOf.2 rfl rfl rfl rfl rfl rfl rfl rfl fun wlaw_go_325 hS => ?_
            refine gl_nil ?_
            refine ga_next (((hS.blank 2).blank 3).pre 5) fun hK => ?_
            refine ga_done (by kernel_rfl) ?_
            refine hK34 _ _ ?_
            clear hK34; try clear K34
            refine gc_region ?_
            refine gl_op rfl rfl rfl (op_pure hT rfl) ?_
            first | refine gl_fit hT rfl rfl rfl rfl (by omega) ?_ | refine gl_op rfl rfl rfl (op_pure hT rfl) ?_
            refine gl_op rfl rfl rfl (op_pure hT rfl) ?_
            refine gl_nil ?_
            intro a ha
            have hS : St w.heap.size w _ [.row (some ⟨g131, 0, none⟩) k 46 1 k ((List.replicate k 0).map fV), .row (some ⟨g132, 0, none⟩) 64 24 1 64 (S.map svV), .blk g16 27 (propC (some ⟨g131, 0, none⟩, k, k) (A152, j + 1, c152) (some ⟨g132, 0, none⟩, 64, 64) (limP k 0 0 8 8 1024)), .row A152 c152 24 1 (j + 1) (SG.map svV ++ [svV (some ⟨g150, 0, none⟩, k, k)]), .keep ok wk, .row (some ⟨g150, 0, none⟩) k 46 1 k ((List.replicate k 0).map fV)] := hS
            have hm1 : ∀ b, ok b → It.fp (.keep ok wk) b ∨ It.fp (.row (some ⟨g150, 0, none⟩) k 46 1 k ((List.replicate k 0).map fV)) b := fun b hb => .inl hb
            have hn1 := (Nul.keep hS (i := 4) rfl hNuG).weaken hm1
            have hn3 := (Nul.keep hS (i := 4) rfl hNuS).weaken hm1
            have hn2 : Rd _ (fun b => It.fp (.keep ok wk) b ∨ It.fp (.row (some ⟨g150, 0, none⟩) k 46 1 k ((List.replicate k 0).map fV)) b) (some ⟨g150, 0, none⟩) k 1 ((List.replicate k 0).map fV) := Rd.weaken (Owns.rdFp (hS.at (i := 5) rfl)) (fun b hb => .inr hb)
            have hn2' := RdE.ofRd hn2 List.length_replicate
            have hn := hn1.snoc (x := ((some ⟨g150, 0, none⟩, k, k) : Sv)) hn2' rfl
            have hS := St.fuse (L := [.row (some ⟨g131, 0, none⟩) k 46 1 k ((List.replicate k 0).map fV), .row (some ⟨g132, 0, none⟩) 64 24 1 64 (S.map svV), .blk g16 27 (propC (some ⟨g131, 0, none⟩, k, k) (A152, j + 1, c152) (some ⟨g132, 0, none⟩, 64, 64) (limP k 0 0 8 8 1024)), .row A152 c152 24 1 (j + 1) (SG.map svV ++ [svV (some ⟨g150, 0, none⟩, k, k)])]) hS
            refine ⟨j + 1, SG ++ [((some ⟨g150, 0, none⟩, k, k) : Sv)], _, _, A152, c152, ha.sub ⟨rfl, rfl, rfl, trivial⟩, by omega, by omega, by simp [hSGl], hn3, hn, ?_⟩
            rw [List.map_append]
            exact hS
          · skip
            refine gl_lit hT hS el24 rfl rfl rfl rfl rfl rfl rfl rfl rfl fun g151 w151 hS => ?_
            refine gl_nil ?_
            refine ga_next (((hS.blank 2).blank 3).pre 5) fun hK => ?_
            refine ga_one 1 (by kernel_rfl) rfl ?_
            refine gl_op rfl rfl rfl (op_loadB 2 hT hS rfl rfl rfl rfl rfl rfl) ?_
            refine gl_nil ?_
            refine ga_next (((hS.blank 2).blank 3).pre 5) fun hK => ?_
            refine ga_one 5 (by kernel_rfl) rfl ?_
            refine gl_append 3 hT hS el24 (hS.rd (i := 6) rfl) (rfl) rfl rfl rfl rfl rfl rfl rfl rfl (by dsimp only; omega) (by dsimp only; omega) fun A152 c152 w152 hS => ?_
            have hS := hS.erase 6
            refine gl_nil ?_
            refine ga_next (((hS.blank 2).blank 3).pre 5) fun hK => ?_
            refine ga_take 6 rfl rfl rfl rfl (by kernel_rfl) (fun _ _ _ _ _ h => h) hK (fun w1 hS => op_fieldB 1 rfl Tryd.underlying27 rfl el25 rfl rfl) ?_
            refine ga_one 7 (by kernel_rfl) rfl ?_
            refine gl_store 2 hS el25.cellsOf.1 el25.cellsOf.2 rfl rfl rfl rfl rfl rfl rfl rfl fun wlaw_go_325 hS => ?_
            refine gl_nil ?_
            refine ga_next (((hS.blank 2).blank 3).pre 5) fun hK => ?_
            refine ga_done (by kernel_rfl) ?_
            refine hK34 _ _ ?_
            clear hK34; try clear K34
            refine gc_region ?_
            refine gl_op rfl rfl rfl (op_pure hT rfl) ?_
            first | refine gl_fit hT rfl rfl rfl rfl (by omega) ?_ | refine gl_op rfl rfl rfl (op_pure hT rfl) ?_
            refine gl_op rfl rfl rfl (op_pure hT rfl) ?_
            refine gl_nil ?_
            intro a ha
            have hS : St w.heap.size w _ [.row (some ⟨g131, 0, none⟩) k 46 1 k ((List.replicate k 0).map fV), .row (some ⟨g132, 0, none⟩) 64 24 1 64 (S.map svV), .blk g16 27 (propC (some ⟨g131, 0, none⟩, k, k) (A152, j + 1, c152) (some ⟨g132, 0, none⟩, 64, 64) (limP k 0 0 8 8 1024)), .row A152 c152 24 1 (j + 1) (SG.map svV ++ [svV (some ⟨g150, 0, none⟩, k, k)]), .keep ok wk, .row (some ⟨g150, 0, none⟩) k 46 1 k ((List.replicate k 0).map fV)] := hS
            have hm1 : ∀ b, ok b → It.fp (.keep ok wk) b ∨ It.fp (.row (some ⟨g150, 0, none⟩) k 46 1 k ((List.replicate k 0).map fV)) b := fun b hb => .inl hb
            have hn1 := (Nul.keep hS (i := 4) rfl hNuG).weaken hm1
            have hn3 := (Nul.keep hS (i := 4) rfl hNuS).weaken hm1
            have hn2 : Rd _ (fun b => It.fp (.keep ok wk) b ∨ It.fp (.row (some ⟨g150, 0, none⟩) k 46 1 k ((List.replicate k 0).map fV)) b) (some ⟨g150, 0, none⟩) k 1 ((List.replicate k 0).map fV) := Rd.weaken (Owns.rdFp (hS.at (i := 5) rfl)) (fun b hb => .inr hb)
            have hn2' := RdE.ofRd hn2 List.length_replicate
            have hn := hn1.snoc (x := ((some ⟨g150, 0, none⟩, k, k) : Sv)) hn2' rfl
            have hS := St.fuse (L := [.row (some ⟨g131, 0, none⟩) k 46 1 k ((List.replicate k 0).map fV), .row (some ⟨g132, 0, none⟩) 64 24 1 64 (S.map svV), .blk g16 27 (propC (some ⟨g131, 0, none⟩, k, k) (A152, j + 1, c152) (some ⟨g132, 0, none⟩, 64, 64) (limP k 0 0 8 8 1024)), .row A152 c152 24 1 (j + 1) (SG.map svV ++ [svV (some ⟨g150, 0, none⟩, k, k)])]) hS
            refine ⟨j + 1, SG ++ [((some ⟨g150, 0, none⟩, k, k) : Sv)], _, _, A152, c152, ha.sub ⟨rfl, rfl, rfl, trivial⟩, by omega, by omega, by simp [hSGl], hn3, hn, ?_⟩
            rw [List.map_append]
            exact hS
      · try simp only [decide_eq_true_eq, decide_eq_false_iff_not, Bool.not_eq_true', Bool.not_eq_false', Int.not_lt, Int.not_le, Nat.not_lt, Nat.not_le, Bool.true_eq, Bool.false_eq, reduceCtorEq] at c144
        have hj256 : j = 256 := by omega
        subst hj256
        have hpK : ∀ K D Z : Int, i64 K → i64 D → i64 Z → ∀ {w1 : World} {L : List It}, St w.heap.size w w1 L → L[0]? = some (.row (some ⟨g131, 0, none⟩) k 46 1 k ((List.replicate k 0).map fV)) → L[1]? = some (.row (some ⟨g132, 0, none⟩) 64 24 1 64 (S.map svV)) → L[3]? = some (.row AG cG 24 1 256 (SG.map svV)) → L[4]? = some (.keep ok wk) →
            PrM w1 All (some ⟨g131, 0, none⟩, k, k) (AG, 256, cG) (some ⟨g132, 0, none⟩, 64, 64) SG S (limP k 256 64 K D Z) := by
          intro K D Z h1 h2 h3 w1 L hS i0 i1 i3 i4
          refine lim_prM (by omega) (by omega) (by omega) h1 h2 h3 (RdE.ofRow (hS.at i0) List.length_replicate) (hS.rdS i3 hSGl) (hS.rdS i1 hSl) ((Nul.keep hS i4 hNuG).weaken fun _ _ => trivial) ((Nul.keep hS i4 hNuS).weaken fun _ _ => trivial) hSGl hSl
        refine gc_exit ?_
        refine hK30 _ _ ?_
        clear hK30; try clear K30
        refine gc_cut (fun a w' => Fr 240 a [(5, .int .i64 0), (14, .int .i64 (k : Nat)), (16, .pointer (some ⟨g16, 0, none⟩))] ∧
        St w.heap.size w w' [.row (some ⟨g131, 0, none⟩) k 46 1 k ((List.replicate k 0).map fV), .row (some ⟨g132, 0, none⟩) 64 24 1 64 (S.map svV), .blk g16 27 (propC (some ⟨g131, 0, none⟩, k, k) (AG, 256, cG) (some ⟨g132, 0, none⟩, 64, 64) (limP k 0 0 8 8 1024)), .row AG cG 24 1 256 (SG.map svV), .keep ok wk]) ?_ ?_
        · skip
          refine gc_region ?_
          refine gl_op rfl rfl rfl (op_loadG 2 Tryd.underlying27 rfl el27 hS rfl rfl rfl rfl rfl) ?_
          refine gl_op rfl rfl rfl (op_pure hT rfl) ?_
          refine gl_callf rfl rfl rfl rfl Tryd.func11 rfl rfl rfl (checkProp_calls (some ⟨g131, 0, none⟩, k, k) (AG, 256, cG) (some ⟨g132, 0, none⟩, 64, 64) SG S (limP k 256 64 8 8 1024) (k : Nat) 1 _ (hpK 8 8 1024 (by decide) (by decide) (by decide) hS rfl rfl rfl rfl)) ?_
          rintro _ w157 ⟨rfl, hb157⟩
          refine ⟨_, rfl, ?_⟩
          have hS := hS.grown hb157
          rw [limP_fit hk1 (by decide) (by decide), if_neg (by decide)]
          refine gl_op rfl rfl rfl (op_pure hT rfl) ?_
          refine gl_op rfl rfl rfl (op_pure hT rfl) ?_
          refine gl_op rfl rfl rfl (op_pure hT rfl) ?_
          refine gl_op rfl rfl rfl (op_pure hT rfl) ?_
          refine gl_nil ?_
          intro a ha
          exact ⟨ha.sub ⟨rfl, rfl, rfl, trivial⟩, hS⟩
        rintro a w1 ⟨hF, hS⟩
        refine gc_of hF ?_
        clear hF
        refine gc_seq fun K35 hK35 => ?_
        refine gc_region ?_
        refine gl_op rfl rfl rfl (op_loadG 2 Tryd.underlying27 rfl el27 hS rfl rfl rfl rfl rfl) ?_
        refine gl_alloc el27 hS rfl rfl rfl rfl fun g19 w19 hS => ?_
        refine gl_storeM 5 hS el27 rfl rfl rfl rfl rfl rfl rfl rfl rfl fun wlaw_go_328 hS => ?_
        refine gl_nil ?_
        refine hK35 _ _ ?_
        clear hK35; try clear K35
        refine gc_cut (fun a w' => ∃ g19 g165 AQ cQ, Fr 240 a [(5, .int .i64 0), (14, .int .i64 (k : Nat)), (16, .pointer (some ⟨g16, 0, none⟩)), (19, .pointer (some ⟨g19, 0, none⟩))] ∧
        St w.heap.size w w' [.row (some ⟨g131, 0, none⟩) k 46 1 k ((List.replicate k 0).map fV), .row (some ⟨g132, 0, none⟩) 64 24 1 64 (S.map svV), .blk g16 27 (propC (some ⟨g131, 0, none⟩, k, k) (AG, 256, cG) (some ⟨g132, 0, none⟩, 64, 64) (limP k 0 0 8 8 1024)), .row AG cG 24 1 256 (SG.map svV), .keep ok wk, .blk g19 27 (propC (some ⟨g131, 0, none⟩, k, k) (AQ, 257, cQ) (some ⟨g132, 0, none⟩, 64, 64) (limP k 0 0 8 8 1024)), .row AQ cQ 24 1 257 (SG.map svV ++ [svV (some ⟨g165, 0, none⟩, k, k)]), .row (some ⟨g165, 0, none⟩) k 46 1 k ((List.replicate k 0).map fV)]) ?_ ?_
        · skip
          refine gc_anyS (hS.blank 5) (by kernel_rfl) rfl fun nq38 hK => ?_
          have hS := hS.dr nq38
          refine ga_take 0 rfl rfl rfl rfl (by kernel_rfl) (fun _ _ _ _ _ h => h) hK (fun w1 hS => op_fieldB 1 rfl Tryd.underlying27 rfl el25 rfl rfl) ?_
          refine ga_take 1 rfl rfl rfl rfl (by kernel_rfl) (fun _ _ _ _ _ h => h) hK (fun w1 hS => op_loadB 2 hT hS rfl rfl rfl rfl rfl rfl) ?_
          refine ga_take 3 rfl rfl rfl rfl (by kernel_rfl) (fun _ _ _ _ _ h => h) hK (fun w1 hS => op_pure hT rfl) ?_
          refine ga_two 2 4 (by kernel_rfl) rfl rfl ?_ ?_
          · skip
            refine gl_append0 hT hS el24 (hS.rd (i := 3) rfl) (allOne_map (fun _ => rfl) _) rfl rfl rfl rfl rfl rfl rfl (by decide) (by decide) fun A163 c163 w163 hS => ?_
            refine gl_nil ?_
            refine ga_next ((hS.blank 5).pre 6) fun hK => ?_
            refine ga_one 4 (by kernel_rfl) rfl ?_
            refine gl_make (n := k) hT hS el46 rfl rfl rfl rfl rfl rfl rfl (by omega) (by omega) fun g165 w165 hS => ?_
            rw [made_fl] at hS
            refine gl_nil ?_
            refine ga_next ((hS.blank 5).pre 6) fun hK => ?_
            refine ga_one 5 (by kernel_rfl) rfl ?_
            refine gl_lit hT hS el24 rfl rfl rfl rfl rfl rfl rfl rfl rfl fun g166 w166 hS => ?_
            refine gl_nil ?_
            refine ga_next ((hS.blank 5).pre 6) fun hK => ?_
            refine ga_one 6 (by kernel_rfl) rfl ?_
            refine gl_append 6 hT hS el24 (hS.rd (i := 8) rfl) (rfl) rfl rfl rfl rfl rfl rfl rfl rfl (by decide) (by decide) fun A167 c167 w167 hS => ?_
            have hS := hS.erase 8
            refine gl_nil ?_
            refine ga_next ((hS.blank 5).pre 6) fun hK => ?_
            refine ga_take 7 rfl rfl rfl rfl (by kernel_rfl) (fun _ _ _ _ _ h => h) hK (fun w1 hS => op_fieldB 1 rfl Tryd.underlying27 rfl el25 rfl rfl) ?_
            refine ga_one 8 (by kernel_rfl) rfl ?_
            refine gl_store 5 hS el25.cellsOf.1 el25.cellsOf.2 rfl rfl rfl rfl rfl rfl rfl rfl fun wlaw_go_329 hS => ?_
            refine gl_nil ?_
            refine ga_next ((hS.blank 5).pre 6) fun hK => ?_
            refine ga_done (by kernel_rfl) ?_
            intro a ha
            first
              | exact ⟨g19, g165, A167, c167, ha.sub ⟨rfl, rfl, rfl, rfl, trivial⟩, hS⟩
              | exact ⟨g19, g165, A167, c167, ha.sub ⟨rfl, rfl, rfl, rfl, trivial⟩, hS.permute (.cons _ (.cons _ (.cons _ (.cons _ (.cons _ (.cons _ (.swap ..)))))))⟩
              | exact ⟨g19, g165, A167, c167, ha.sub ⟨rfl, rfl, rfl, rfl, trivial⟩, (hS.erase 7).permute (.cons _ (.cons _ (.cons _ (.cons _ (.cons _ (.cons _ (.swap ..)))))))⟩
              | trace_state
          · skip
            refine gl_make (n := k) hT hS el46 rfl rfl rfl rfl rfl rfl rfl (by omega) (by omega) fun g165 w165 hS => ?_
            rw [made_fl] at hS
            refine gl_nil ?_
            refine ga_next ((hS.blank 5).pre 6) fun hK => ?_
            refine ga_two 2 5 (by kernel_rfl) rfl rfl ?_ ?_
            · skip
              refine gl_append0 hT hS el24 (hS.rd (i := 3) rfl) (allOne_map (fun _ => rfl) _) rfl rfl rfl rfl rfl rfl rfl (by decide) (by decide) fun A163 c163 w163 hS => ?_
              refine gl_nil ?_
              refine ga_next ((hS.blank 5).pre 6) fun hK => ?_
              refine ga_one 5 (by kernel_rfl) rfl ?_
              refine gl_lit hT hS el24 rfl rfl rfl rfl rfl rfl rfl rfl rfl fun g166 w166 hS => ?_
              refine gl_nil ?_
              refine ga_next ((hS.blank 5).pre 6) fun hK => ?_
              refine ga_one 6 (by kernel_rfl) rfl ?_
              refine gl_append 7 hT hS el24 (hS.rd (i := 8) rfl) (rfl) rfl rfl rfl rfl rfl rfl rfl rfl (by decide) (by decide) fun A167 c167 w167 hS => ?_
              have hS := hS.erase 8
              refine gl_nil ?_
              refine ga_next ((hS.blank 5).pre 6) fun hK => ?_
              refine ga_take 7 rfl rfl rfl rfl (by kernel_rfl) (fun _ _ _ _ _ h => h) hK (fun w1 hS => op_fieldB 1 rfl Tryd.underlying27 rfl el25 rfl rfl) ?_
              refine ga_one 8 (by kernel_rfl) rfl ?_
              refine gl_store 5 hS el25.cellsOf.1 el25.cellsOf.2 rfl rfl rfl rfl rfl rfl rfl rfl fun wlaw_go_329 hS => ?_
              refine gl_nil ?_
              refine ga_next ((hS.blank 5).pre 6) fun hK => ?_
              refine ga_done (by kernel_rfl) ?_
              intro a ha
              first
                | exact ⟨g19, g165, A167, c167, ha.sub ⟨rfl, rfl, rfl, rfl, trivial⟩, hS⟩
                | exact ⟨g19, g165, A167, c167, ha.sub ⟨rfl, rfl, rfl, rfl, trivial⟩, hS.permute (.cons _ (.cons _ (.cons _ (.cons _ (.cons _ (.cons _ (.swap ..)))))))⟩
                | exact ⟨g19, g165, A167, c167, ha.sub ⟨rfl, rfl, rfl, rfl, trivial⟩, (hS.erase 7).permute (.cons _ (.cons _ (.cons _ (.cons _ (.cons _ (.cons _ (.swap ..)))))))⟩
                | trace_state
            · skip
              refine gl_lit hT hS el24 rfl rfl rfl rfl rfl rfl rfl rfl rfl fun g166 w166 hS => ?_
              refine gl_nil ?_
              refine ga_next ((hS.blank 5).pre 6) fun hK => ?_
              refine ga_one 2 (by kernel_rfl) rfl ?_
              refine gl_append0 hT hS el24 (hS.rd (i := 3) rfl) (allOne_map (fun _ => rfl) _) rfl rfl rfl rfl rfl rfl rfl (by decide) (by decide) fun A163 c163 w163 hS => ?_
              refine gl_nil ?_
              refine ga_next ((hS.blank 5).pre 6) fun hK => ?_
              refine ga_one 6 (by kernel_rfl) rfl ?_
              refine gl_append 8 hT hS el24 (hS.rd (i := 7) rfl) (rfl) rfl rfl rfl rfl rfl rfl rfl rfl (by decide) (by decide) fun A167 c167 w167 hS => ?_
              refine gl_nil ?_
              refine ga_next ((hS.blank 5).pre 6) fun hK => ?_
              refine ga_take 7 rfl rfl rfl rfl (by kernel_rfl) (fun _ _ _ _ _ h => h) hK (fun w1 hS => op_fieldB 1 rfl Tryd.underlying27 rfl el25 rfl rfl) ?_
              refine ga_one 8 (by kernel_rfl) rfl ?_
              refine gl_store 5 hS el25.cellsOf.1 el25.cellsOf.2 rfl rfl rfl rfl rfl rfl rfl rfl fun wlaw_go_329 hS => ?_
              refine gl_nil ?_
              refine ga_next ((hS.blank 5).pre 6) fun hK => ?_
              refine ga_done (by kernel_rfl) ?_
              intro a ha
              first
                | exact ⟨g19, g165, A167, c167, ha.sub ⟨rfl, rfl, rfl, rfl, trivial⟩, hS⟩
                | exact ⟨g19, g165, A167, c167, ha.sub ⟨rfl, rfl, rfl, rfl, trivial⟩, hS.permute (.cons _ (.cons _ (.cons _ (.cons _ (.cons _ (.cons _ (.swap ..)))))))⟩
                | exact ⟨g19, g165, A167, c167, ha.sub ⟨rfl, rfl, rfl, rfl, trivial⟩, (hS.erase 7).permute (.cons _ (.cons _ (.cons _ (.cons _ (.cons _ (.cons _ (.swap ..)))))))⟩
                | trace_state
        rintro a w1 ⟨g19, g165, AQ, cQ, hF, hS⟩
        refine gc_of hF ?_
        clear hF
        refine gc_cut (fun a w' => Fr 240 a [(5, .int .i64 0), (7, .int .i64 65), (12, .int .i64 0), (14, .int .i64 (k : Nat)), (16, .pointer (some ⟨g16, 0, none⟩))] ∧ St w.heap.size w w' [.row (some ⟨g131, 0, none⟩) k 46 1 k ((List.replicate k 0).map fV), .row (some ⟨g132, 0, none⟩) 64 24 1 64 (S.map svV), .blk g16 27 (propC (some ⟨g131, 0, none⟩, k, k) (AG, 256, cG) (some ⟨g132, 0, none⟩, 64, 64) (limP k 0 0 8 8 1024)), .row AG cG 24 1 256 (SG.map svV), .keep ok wk]) ?_ ?_
        · skip
          refine gc_region ?_
          refine gl_op rfl rfl rfl (op_loadG 5 Tryd.underlying27 rfl el27 hS rfl rfl rfl rfl rfl) ?_
          refine gl_op rfl rfl rfl (op_pure hT rfl) ?_
          have hQl : (SG ++ [((some ⟨g165, 0, none⟩, k, k) : Sv)]).length = 257 := by simp [hSGl]
          have hQr : RdE _ All svV AQ (SG ++ [((some ⟨g165, 0, none⟩, k, k) : Sv)]) := hS.rdS (i := 6) (n := 257) (c := cQ) (t := 24) (by rw [List.map_append]; rfl) hQl
          have hQn := ((Nul.keep hS (i := 4) rfl hNuG).weaken (ok' := All) fun _ _ => trivial).snoc (x := ((some ⟨g165, 0, none⟩, k, k) : Sv)) (RdE.ofRow (hS.at (i := 7) rfl) List.length_replicate) rfl
          have hQp := lim_prM (K := 8) (D := 8) (S := 1024) (cG := cQ) (cM := 64) (by omega) (by omega) (by omega) (by decide) (by decide) (by decide) (RdE.ofRow (hS.at (i := 0) rfl) List.length_replicate) hQr (hS.rdS (i := 1) rfl hSl) hQn ((Nul.keep hS (i := 4) rfl hNuS).weaken fun _ _ => trivial) hQl hSl
          refine gl_callf rfl rfl rfl rfl Tryd.func11 rfl rfl rfl (checkProp_calls (some ⟨g131, 0, none⟩, k, k) (AQ, 257, cQ) (some ⟨g132, 0, none⟩, 64, 64) (SG ++ [((some ⟨g165, 0, none⟩, k, k) : Sv)]) S (limP k 257 64 8 8 1024) (k : Nat) 1 _ hQp) ?_
          rintro _ w172 ⟨rfl, hb172⟩
          refine ⟨_, rfl, ?_⟩
          have hS := hS.grown hb172
          rw [limP_big hk1 (by decide)]
          refine gl_op rfl rfl rfl (op_pure hT rfl) ?_
          refine gl_op rfl rfl rfl (op_pure hT rfl) ?_
          refine gl_op rfl rfl rfl (op_pure hT rfl) ?_
          refine gl_op rfl rfl rfl (op_pure hT rfl) ?_
          refine gl_op rfl rfl rfl (op_pure hT rfl) ?_
          refine gl_nil ?_
          intro a ha
          exact ⟨ha.sub ⟨rfl, rfl, rfl, rfl, rfl, trivial⟩, hS.pre 5⟩
        rintro a w1 ⟨hF, hS⟩
        refine gc_of hF ?_
        clear hF
        refine gc_seq fun K36 hK36 => ?_
        refine gc_region ?_
        refine gl_op rfl rfl rfl (op_loadG 2 Tryd.underlying27 rfl el27 hS rfl rfl rfl rfl rfl) ?_
        refine gl_alloc el27 hS rfl rfl rfl rfl fun g20 w20 hS => ?_
        refine gl_storeM 5 hS el27 rfl rfl rfl rfl rfl rfl rfl rfl rfl fun wlaw_go_331 hS => ?_
        refine gl_nil ?_
        refine hK36 _ _ ?_
        clear hK36; try clear K36
        refine gc_cut (fun a w' => ∃ g20 g179 AR cR, Fr 240 a [(5, .int .i64 0), (7, .int .i64 65), (12, .int .i64 0), (14, .int .i64 (k : Nat)), (16, .pointer (some ⟨g16, 0, none⟩)), (20, .pointer (some ⟨g20, 0, none⟩))] ∧
        St w.heap.size w w' [.row (some ⟨g131, 0, none⟩) k 46 1 k ((List.replicate k 0).map fV), .row (some ⟨g132, 0, none⟩) 64 24 1 64 (S.map svV), .blk g16 27 (propC (some ⟨g131, 0, none⟩, k, k) (AG, 256, cG) (some ⟨g132, 0, none⟩, 64, 64) (limP k 0 0 8 8 1024)), .row AG cG 24 1 256 (SG.map svV), .keep ok wk, .blk g20 27 (propC (some ⟨g131, 0, none⟩, k, k) (AG, 256, cG) (AR, 65, cR) (limP k 0 0 8 8 1024)), .row AR cR 24 1 65 (S.map svV ++ [svV (some ⟨g179, 0, none⟩, 2, 2)]), .row (some ⟨g179, 0, none⟩) 2 46 1 2 ((List.replicate 2 0).map fV)]) ?_ ?_
        · skip
          refine gc_anyS (hS.blank 5) (by kernel_rfl) rfl fun nq41 hK => ?_
          have hS := hS.dr nq41
          refine ga_take 0 rfl rfl rfl rfl (by kernel_rfl) (fun _ _ _ _ _ h => h) hK (fun w1 hS => op_fieldB 3 rfl Tryd.underlying27 rfl el25 rfl rfl) ?_
          refine ga_take 1 rfl rfl rfl rfl (by kernel_rfl) (fun _ _ _ _ _ h => h) hK (fun w1 hS => op_loadB 2 hT hS rfl rfl rfl rfl rfl rfl) ?_
          refine ga_two 2 3 (by kernel_rfl) rfl rfl ?_ ?_
          · skip
            refine gl_append0 hT hS el24 (hS.rd (i := 1) rfl) (allOne_map (fun _ => rfl) _) rfl rfl rfl rfl rfl rfl rfl (by decide) (by decide) fun A178 c178 w178 hS => ?_
            refine gl_nil ?_
            refine ga_next ((hS.blank 5).pre 6) fun hK => ?_
            refine ga_one 3 (by kernel_rfl) rfl ?_
            refine gl_make (n := 2) hT hS el46 rfl rfl rfl rfl rfl rfl rfl (by decide) (by decide) fun g179 w179 hS => ?_
            rw [made_fl] at hS
            refine gl_nil ?_
            refine ga_next ((hS.blank 5).pre 6) fun hK => ?_
            refine ga_one 4 (by kernel_rfl) rfl ?_
            refine gl_lit hT hS el24 rfl rfl rfl rfl rfl rfl rfl rfl rfl fun g180 w180 hS => ?_
            refine gl_nil ?_
            refine ga_next ((hS.blank 5).pre 6) fun hK => ?_
            refine ga_one 5 (by kernel_rfl) rfl ?_
            refine gl_append 6 hT hS el24 (hS.rd (i := 8) rfl) (rfl) rfl rfl rfl rfl rfl rfl rfl rfl (by decide) (by decide) fun A181 c181 w181 hS => ?_
            have hS := hS.erase 8
            refine gl_nil ?_
            refine ga_next ((hS.blank 5).pre 6) fun hK => ?_
            refine ga_take 6 rfl rfl rfl rfl (by kernel_rfl) (fun _ _ _ _ _ h => h) hK (fun w1 hS => op_fieldB 3 rfl Tryd.underlying27 rfl el25 rfl rfl) ?_
            refine ga_one 7 (by kernel_rfl) rfl ?_
            refine gl_store 5 hS el25.cellsOf.1 el25.cellsOf.2 rfl rfl rfl rfl rfl rfl rfl rfl fun wlaw_go_332 hS => ?_
            refine gl_nil ?_
            refine ga_next ((hS.blank 5).pre 6) fun hK => ?_
            refine ga_done (by kernel_rfl) ?_
            intro a ha
            first
              | exact ⟨g20, g179, A181, c181, ha.sub ⟨rfl, rfl, rfl, rfl, rfl, rfl, trivial⟩, hS⟩
              | exact ⟨g20, g179, A181, c181, ha.sub ⟨rfl, rfl, rfl, rfl, rfl, rfl, trivial⟩, hS.permute (.cons _ (.cons _ (.cons _ (.cons _ (.cons _ (.cons _ (.swap ..)))))))⟩
              | exact ⟨g20, g179, A181, c181, ha.sub ⟨rfl, rfl, rfl, rfl, rfl, rfl, trivial⟩, (hS.erase 7).permute (.cons _ (.cons _ (.cons _ (.cons _ (.cons _ (.cons _ (.swap ..)))))))⟩
              | trace_state
          · skip
            refine gl_make (n := 2) hT hS el46 rfl rfl rfl rfl rfl rfl rfl (by decide) (by decide) fun g179 w179 hS => ?_
            rw [made_fl] at hS
            refine gl_nil ?_
            refine ga_next ((hS.blank 5).pre 6) fun hK => ?_
            refine ga_two 2 4 (by kernel_rfl) rfl rfl ?_ ?_
            · skip
              refine gl_append0 hT hS el24 (hS.rd (i := 1) rfl) (allOne_map (fun _ => rfl) _) rfl rfl rfl rfl rfl rfl rfl (by decide) (by decide) fun A178 c178 w178 hS => ?_
              refine gl_nil ?_
              refine ga_next ((hS.blank 5).pre 6) fun hK => ?_
              refine ga_one 4 (by kernel_rfl) rfl ?_
              refine gl_lit hT hS el24 rfl rfl rfl rfl rfl rfl rfl rfl rfl fun g180 w180 hS => ?_
              refine gl_nil ?_
              refine ga_next ((hS.blank 5).pre 6) fun hK => ?_
              refine ga_one 5 (by kernel_rfl) rfl ?_
              refine gl_append 7 hT hS el24 (hS.rd (i := 8) rfl) (rfl) rfl rfl rfl rfl rfl rfl rfl rfl (by decide) (by decide) fun A181 c181 w181 hS => ?_
              have hS := hS.erase 8
              refine gl_nil ?_
              refine ga_next ((hS.blank 5).pre 6) fun hK => ?_
              refine ga_take 6 rfl rfl rfl rfl (by kernel_rfl) (fun _ _ _ _ _ h => h) hK (fun w1 hS => op_fieldB 3 rfl Tryd.underlying27 rfl el25 rfl rfl) ?_
              refine ga_one 7 (by kernel_rfl) rfl ?_
              refine gl_store 5 hS el25.cellsOf.1 el25.cellsOf.2 rfl rfl rfl rfl rfl rfl rfl rfl fun wlaw_go_332 hS => ?_
              refine gl_nil ?_
              refine ga_next ((hS.blank 5).pre 6) fun hK => ?_
              refine ga_done (by kernel_rfl) ?_
              intro a ha
              first
                | exact ⟨g20, g179, A181, c181, ha.sub ⟨rfl, rfl, rfl, rfl, rfl, rfl, trivial⟩, hS⟩
                | exact ⟨g20, g179, A181, c181, ha.sub ⟨rfl, rfl, rfl, rfl, rfl, rfl, trivial⟩, hS.permute (.cons _ (.cons _ (.cons _ (.cons _ (.cons _ (.cons _ (.swap ..)))))))⟩
                | exact ⟨g20, g179, A181, c181, ha.sub ⟨rfl, rfl, rfl, rfl, rfl, rfl, trivial⟩, (hS.erase 7).permute (.cons _ (.cons _ (.cons _ (.cons _ (.cons _ (.cons _ (.swap ..)))))))⟩
                | trace_state
            · skip
              refine gl_lit hT hS el24 rfl rfl rfl rfl rfl rfl rfl rfl rfl fun g180 w180 hS => ?_
              refine gl_nil ?_
              refine ga_next ((hS.blank 5).pre 6) fun hK => ?_
              refine ga_one 2 (by kernel_rfl) rfl ?_
              refine gl_append0 hT hS el24 (hS.rd (i := 1) rfl) (allOne_map (fun _ => rfl) _) rfl rfl rfl rfl rfl rfl rfl (by decide) (by decide) fun A178 c178 w178 hS => ?_
              refine gl_nil ?_
              refine ga_next ((hS.blank 5).pre 6) fun hK => ?_
              refine ga_one 5 (by kernel_rfl) rfl ?_
              refine gl_append 8 hT hS el24 (hS.rd (i := 7) rfl) (rfl) rfl rfl rfl rfl rfl rfl rfl rfl (by decide) (by decide) fun A181 c181 w181 hS => ?_
              refine gl_nil ?_
              refine ga_next ((hS.blank 5).pre 6) fun hK => ?_
              refine ga_take 6 rfl rfl rfl rfl (by kernel_rfl) (fun _ _ _ _ _ h => h) hK (fun w1 hS => op_fieldB 3 rfl Tryd.underlying27 rfl el25 rfl rfl) ?_
              refine ga_one 7 (by kernel_rfl) rfl ?_
              refine gl_store 5 hS el25.cellsOf.1 el25.cellsOf.2 rfl rfl rfl rfl rfl rfl rfl rfl fun wlaw_go_332 hS => ?_
              refine gl_nil ?_
              refine ga_next ((hS.blank 5).pre 6) fun hK => ?_
              refine ga_done (by kernel_rfl) ?_
              intro a ha
              first
                | exact ⟨g20, g179, A181, c181, ha.sub ⟨rfl, rfl, rfl, rfl, rfl, rfl, trivial⟩, hS⟩
                | exact ⟨g20, g179, A181, c181, ha.sub ⟨rfl, rfl, rfl, rfl, rfl, rfl, trivial⟩, hS.permute (.cons _ (.cons _ (.cons _ (.cons _ (.cons _ (.cons _ (.swap ..)))))))⟩
                | exact ⟨g20, g179, A181, c181, ha.sub ⟨rfl, rfl, rfl, rfl, rfl, rfl, trivial⟩, (hS.erase 7).permute (.cons _ (.cons _ (.cons _ (.cons _ (.cons _ (.cons _ (.swap ..)))))))⟩
                | trace_state
        rintro a w1 ⟨g20, g179, AR, cR, hF, hS⟩
        refine gc_of hF ?_
        clear hF
        refine gc_seq fun K37 hK37 => ?_
        refine gc_region ?_
        refine gl_op rfl rfl rfl (op_loadG 5 Tryd.underlying27 rfl el27 hS rfl rfl rfl rfl rfl) ?_
        refine gl_op rfl rfl rfl (op_pure hT rfl) ?_
        have hRl : (S ++ [((some ⟨g179, 0, none⟩, 2, 2) : Sv)]).length = 65 := by simp [hSl]
        have hRr : RdE _ All svV AR (S ++ [((some ⟨g179, 0, none⟩, 2, 2) : Sv)]) := hS.rdS (i := 6) (n := 65) (c := cR) (t := 24) (by rw [List.map_append]; rfl) hRl
        have hRn := ((Nul.keep hS (i := 4) rfl hNuS).weaken (ok' := All) fun _ _ => trivial).snoc (x := ((some ⟨g179, 0, none⟩, 2, 2) : Sv)) (RdE.ofRow (hS.at (i := 7) rfl) List.length_replicate) rfl
        have hRp := lim_prM (K := 8) (D := 8) (S := 1024) (cG := cG) (cM := cR) (by omega) (by omega) (by omega) (by decide) (by decide) (by decide) (RdE.ofRow (hS.at (i := 0) rfl) List.length_replicate) (hS.rdS (i := 3) rfl hSGl) hRr ((Nul.keep hS (i := 4) rfl hNuG).weaken fun _ _ => trivial) hRn hSGl hRl
        refine gl_callf rfl rfl rfl rfl Tryd.func11 rfl rfl rfl (checkProp_calls (some ⟨g131, 0, none⟩, k, k) (AG, 256, cG) (AR, 65, cR) SG (S ++ [((some ⟨g179, 0, none⟩, 2, 2) : Sv)]) (limP k 256 65 8 8 1024) (k : Nat) 1 _ hRp) ?_
        rintro _ w186 ⟨rfl, hb186⟩
        refine ⟨_, rfl, ?_⟩
        have hS := hS.grown hb186
        rw [limP_many hk1 (by decide) (by decide)]
        have hS := hS.pre 5
        refine gl_op rfl rfl rfl (op_pure hT rfl) ?_
        refine gl_op rfl rfl rfl (op_pure hT rfl) ?_
        refine gl_op rfl rfl rfl (op_pure hT rfl) ?_
        refine gl_op rfl rfl rfl (op_pure hT rfl) ?_
        refine gl_op rfl rfl rfl (op_pure hT rfl) ?_
        refine gl_nil ?_
        refine hK37 _ _ ?_
        clear hK37; try clear K37
        refine gc_seq fun K38 hK38 => ?_
        refine gc_seq fun K39 hK39 => ?_
        refine gc_region ?_
        refine gl_op rfl rfl rfl (op_pure hT rfl) ?_
        refine gl_op rfl rfl rfl (op_pure hT rfl) ?_
        refine gl_op rfl rfl rfl (op_pure hT rfl) ?_
        refine gl_un rfl rfl rfl rfl ?_
        refine gl_op rfl rfl rfl (op_pure hT rfl) ?_
        refine gl_un rfl rfl rfl rfl ?_
        refine gl_op rfl rfl rfl (op_pure hT rfl) ?_
        refine gl_op rfl rfl rfl (op_pure hT rfl) ?_
        refine gl_op rfl rfl rfl (op_pure hT rfl) ?_
        refine gl_un rfl rfl rfl rfl ?_
        refine gl_op rfl rfl rfl (op_pure hT rfl) ?_
        refine gl_un rfl rfl rfl rfl ?_
        refine gl_op rfl rfl rfl (op_pure hT rfl) ?_
        refine gl_op rfl rfl rfl (op_pure hT rfl) ?_
        refine gl_op rfl rfl rfl (op_pure hT rfl) ?_
        refine gl_un rfl rfl rfl rfl ?_
        refine gl_op rfl rfl rfl (op_pure hT rfl) ?_
        refine gl_un rfl rfl rfl rfl ?_
        refine gl_op rfl rfl rfl (op_pure hT rfl) ?_
        refine gl_op rfl rfl rfl (op_pure hT rfl) ?_
        refine gl_op rfl rfl rfl (op_pure hT rfl) ?_
        refine gl_un rfl rfl rfl rfl ?_
        refine gl_op rfl rfl rfl (op_pure hT rfl) ?_
        refine gl_un rfl rfl rfl rfl ?_
        refine gl_op rfl rfl rfl (op_pure hT rfl) ?_
        refine gl_op rfl rfl rfl (op_pure hT rfl) ?_
        refine gl_nil ?_
        refine hK39 _ _ ?_
        clear hK39; try clear K39
        refine gc_cond_f rfl ?_
        refine gc_skip ?_
        refine hK38 _ _ ?_
        clear hK38; try clear K38
        refine gc_seq fun K40 hK40 => ?_
        refine gc_region ?_
        refine gl_op rfl rfl rfl (op_fieldB 4 rfl Tryd.underlying27 rfl el3 rfl rfl) ?_
        refine gl_store 2 hS el3.cellsOf.1 el3.cellsOf.2 rfl rfl rfl rfl rfl rfl rfl rfl fun wlaw_go_337 hS => ?_
        refine gl_nil ?_
        refine hK40 _ _ ?_
        clear hK40; try clear K40
        refine gc_seq fun K41 hK41 => ?_
        refine gc_region ?_
        refine gl_op rfl rfl rfl (op_loadG 2 Tryd.underlying27 rfl el27 hS rfl rfl rfl rfl rfl) ?_
        refine gl_op rfl rfl rfl (op_pure hT rfl) ?_
        refine gl_callf rfl rfl rfl rfl Tryd.func11 rfl rfl rfl (checkProp_calls (some ⟨g131, 0, none⟩, k, k) (AG, 256, cG) (some ⟨g132, 0, none⟩, 64, 64) SG S (limP k 256 64 9 8 1024) (k : Nat) 1 _ (hpK 9 8 1024 (by decide) (by decide) (by decide) hS rfl rfl rfl rfl)) ?_
        rintro _ w211 ⟨rfl, hb211⟩
        refine ⟨_, rfl, ?_⟩
        have hS := hS.grown hb211
        rw [limP_fit hk1 (by decide) (by decide), if_pos (by decide)]
        refine gl_op rfl rfl rfl (op_pure hT rfl) ?_
        refine gl_op rfl rfl rfl (op_pure hT rfl) ?_
        refine gl_op rfl rfl rfl (op_pure hT rfl) ?_
        refine gl_op rfl rfl rfl (op_pure hT rfl) ?_
        refine gl_nil ?_
        refine hK41 _ _ ?_
        clear hK41; try clear K41
        refine gc_seq fun K42 hK42 => ?_
        refine gc_region ?_
        refine gl_op rfl rfl rfl (op_fieldB 4 rfl Tryd.underlying27 rfl el3 rfl rfl) ?_
        refine gl_store 2 hS el3.cellsOf.1 el3.cellsOf.2 rfl rfl rfl rfl rfl rfl rfl rfl fun wlaw_go_339 hS => ?_
        refine gl_op rfl rfl rfl (op_fieldB 6 rfl Tryd.underlying27 rfl el3 rfl rfl) ?_
        refine gl_store 2 hS el3.cellsOf.1 el3.cellsOf.2 rfl rfl rfl rfl rfl rfl rfl rfl fun wlaw_go_339 hS => ?_
        refine gl_nil ?_
        refine hK42 _ _ ?_
        clear hK42; try clear K42
        refine gc_seq fun K43 hK43 => ?_
        refine gc_region ?_
        refine gl_op rfl rfl rfl (op_loadG 2 Tryd.underlying27 rfl el27 hS rfl rfl rfl rfl rfl) ?_
        refine gl_op rfl rfl rfl (op_pure hT rfl) ?_
        refine gl_callf rfl rfl rfl rfl Tryd.func11 rfl rfl rfl (checkProp_calls (some ⟨g131, 0, none⟩, k, k) (AG, 256, cG) (some ⟨g132, 0, none⟩, 64, 64) SG S (limP k 256 64 1 8 1025) (k : Nat) 1 _ (hpK 1 8 1025 (by decide) (by decide) (by decide) hS rfl rfl rfl rfl)) ?_
        rintro _ w219 ⟨rfl, hb219⟩
        refine ⟨_, rfl, ?_⟩
        have hS := hS.grown hb219
        rw [limP_fit hk1 (by decide) (by decide), if_pos (by decide)]
        refine gl_op rfl rfl rfl (op_pure hT rfl) ?_
        refine gl_op rfl rfl rfl (op_pure hT rfl) ?_
        refine gl_op rfl rfl rfl (op_pure hT rfl) ?_
        refine gl_op rfl rfl rfl (op_pure hT rfl) ?_
        refine gl_nil ?_
        refine hK43 _ _ ?_
        clear hK43; try clear K43
        refine gc_seq fun K44 hK44 => ?_
        refine gc_region ?_
        refine gl_op rfl rfl rfl (op_fieldB 6 rfl Tryd.underlying27 rfl el3 rfl rfl) ?_
        refine gl_store 2 hS el3.cellsOf.1 el3.cellsOf.2 rfl rfl rfl rfl rfl rfl rfl rfl fun wlaw_go_341 hS => ?_
        refine gl_op rfl rfl rfl (op_fieldB 5 rfl Tryd.underlying27 rfl el3 rfl rfl) ?_
        refine gl_store 2 hS el3.cellsOf.1 el3.cellsOf.2 rfl rfl rfl rfl rfl rfl rfl rfl fun wlaw_go_341 hS => ?_
        refine gl_nil ?_
        refine hK44 _ _ ?_
        clear hK44; try clear K44
        refine gc_seq fun K45 hK45 => ?_
        refine gc_region ?_
        refine gl_op rfl rfl rfl (op_loadG 2 Tryd.underlying27 rfl el27 hS rfl rfl rfl rfl rfl) ?_
        refine gl_op rfl rfl rfl (op_pure hT rfl) ?_
        refine gl_callf rfl rfl rfl rfl Tryd.func11 rfl rfl rfl (checkProp_calls (some ⟨g131, 0, none⟩, k, k) (AG, 256, cG) (some ⟨g132, 0, none⟩, 64, 64) SG S (limP k 256 64 1 9 1) (k : Nat) 1 _ (hpK 1 9 1 (by decide) (by decide) (by decide) hS rfl rfl rfl rfl)) ?_
        rintro _ w227 ⟨rfl, hb227⟩
        refine ⟨_, rfl, ?_⟩
        have hS := hS.grown hb227
        rw [limP_fit hk1 (by decide) (by decide), if_pos (by decide)]
        refine gl_op rfl rfl rfl (op_pure hT rfl) ?_
        refine gl_op rfl rfl rfl (op_pure hT rfl) ?_
        refine gl_op rfl rfl rfl (op_pure hT rfl) ?_
        refine gl_op rfl rfl rfl (op_pure hT rfl) ?_
        refine gl_nil ?_
        refine hK45 _ _ ?_
        clear hK45; try clear K45
        refine gc_seq fun K46 hK46 => ?_
        refine gc_region ?_
        refine gl_op rfl rfl rfl (op_pure hT rfl) ?_
        refine gl_op rfl rfl rfl (op_pure hT rfl) ?_
        refine gl_op rfl rfl rfl (op_pure hT rfl) ?_
        refine gl_un rfl rfl rfl rfl ?_
        refine gl_op rfl rfl rfl (op_pure hT rfl) ?_
        refine gl_un rfl rfl rfl rfl ?_
        refine gl_op rfl rfl rfl (op_pure hT rfl) ?_
        refine gl_op rfl rfl rfl (op_pure hT rfl) ?_
        refine gl_op rfl rfl rfl (op_pure hT rfl) ?_
        refine gl_un rfl rfl rfl rfl ?_
        refine gl_op rfl rfl rfl (op_pure hT rfl) ?_
        refine gl_un rfl rfl rfl rfl ?_
        refine gl_op rfl rfl rfl (op_pure hT rfl) ?_
        refine gl_op rfl rfl rfl (op_pure hT rfl) ?_
        refine gl_op rfl rfl rfl (op_pure hT rfl) ?_
        refine gl_nil ?_
        refine hK46 _ _ ?_
        clear hK46; try clear K46
        refine gc_ret ?_
        try simp only [x_then_ret, x_block_ret]
        refine gk_ret1 rfl rfl ?_
        exact ⟨rfl, hS.below⟩
end Go.Proofs.YtkfhablonnjgeaaDoor
