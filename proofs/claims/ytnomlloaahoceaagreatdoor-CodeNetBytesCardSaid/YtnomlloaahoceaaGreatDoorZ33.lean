/- Contracts of functions that CodeNetBytes reaches, and words to say them. No condition. -/
import Derived.Test.YtnomlloaahoceaaGreatDoorZ32
import Derived.Test.YtnomlloaahoceaaGreatDoorZ03
/- Contracts: networks as bits, compared with themselves. No condition. -/
namespace Go.Proofs.YtnomlloaahoceaaGreatDoor
open Go.RowKit
set_option linter.unusedVariables false
set_option linter.unusedSimpArgs false
section
variable {P : Program} {N : Nt} {e : Env} {w : World}
theorem run_partk {t : TypeId} {k : IntKind} {cs : Array Value} {j : Nat} {v : Value} (ht : P.underlying t = some (.int k)) (hv : cs[j]? = some v) : (part t cs j).run P w = .ok v w := by
 simp [part, run_isAgg ht, isAggD, hv, Sem.run_bind]
theorem run_eqArr {t el : TypeId} {n d : Nat} {k : IntKind} {z : Value} {bytes : Nat} (hu : P.underlying t = some (.array n el)) (he : P.underlying el = some (.int k)) (hE : Elem P el z 1 bytes) (hq : ∀ a : Int, (Op.equalIn d el (.int k a) (.int k a)).run P w = .ok true w) (xs : List Int) (hl : xs.length = n) :
 (Op.equalIn (d + 1) t (.agg ⟨xs.map (.int k)⟩) (.agg ⟨xs.map (.int k)⟩)).run P w = .ok true w := by
 simp only [Op.equalIn, Sem.run_bind, run_underlying hu, Result.andThen_ok, hE.run_size]
 simp only [Std.Legacy.Range.forIn_eq_forIn_range', Std.Legacy.Range.size, Nat.sub_zero, Nat.add_one_sub_one, Nat.div_one]
 have hm : ∀ j ∈ List.range' 0 n, j < xs.length := fun j hj => by rw [hl]; have := List.mem_range'_1.1 hj; omega
 generalize List.range' 0 n = is at hm ⊢
 induction is with
 | nil => simp
 | cons j is ih =>
  have hj := hm j (.head _)
  have hv : (⟨xs.map (.int k)⟩ : Array Value)[j * 1]? = some (.int k xs[j]) := by
   rw [Nat.mul_one]
   show (xs.map (Value.int k)).toArray[j]? = _
   rw [List.getElem?_toArray, List.getElem?_map, List.getElem?_eq_getElem hj]; rfl
  simp only [List.forIn_cons, Sem.run_bind, run_partk he hv, Result.andThen_ok, hq, Bool.not_true, Bool.false_eq_true, if_false, Sem.run_pure]
  exact ih fun j h => hm j (.tail _ h)
theorem op_eqlA {o : Oper} {t yt el : TypeId} {x y : Operand} {n : Nat} {k : IntKind} {z : Value} {bytes : Nat} (xs : List Int) (hu : P.underlying t = some (.array n el)) (he : P.underlying el = some (.int k)) (hE : Elem P el z 1 bytes) (hg : P.eqGuardType P.depth t = false) (hl : xs.length = n)
 (ho : o.op = .binOp .eql t x y yt) (hx : evO e x = some (.agg ⟨xs.map (.int k)⟩)) (hy : evO e y = some (.agg ⟨xs.map (.int k)⟩)) : OpR P N e w o (.bool true) := by
 intro q m ha
 have h10 : (Op.equalIn 10000 t (.agg ⟨xs.map (.int k)⟩) (.agg ⟨xs.map (.int k)⟩)).run P (World.dr w q) = .ok true (World.dr w q) := run_eqArr (d := 9999) hu he hE (fun a => (run_equalIn_int _ 9998 el k k a a he).trans (by rw [beq_self_eq_true])) xs hl
 simp only [execOp, ho, ha.eval hx, ha.eval hy, Sem.run_bind, run_eqGuard_agg _ .eql t x y _ _ hg, Result.andThen_ok, run_eql_struct, h10, Sem.run_pure]
theorem op_neqA {o : Oper} {t yt el : TypeId} {x y : Operand} {n : Nat} {k : IntKind} {z : Value} {bytes : Nat} (xs : List Int) (hu : P.underlying t = some (.array n el)) (he : P.underlying el = some (.int k)) (hE : Elem P el z 1 bytes) (hg : P.eqGuardType P.depth t = false) (hl : xs.length = n)
 (ho : o.op = .binOp .neq t x y yt) (hx : evO e x = some (.agg ⟨xs.map (.int k)⟩)) (hy : evO e y = some (.agg ⟨xs.map (.int k)⟩)) : OpR P N e w o (.bool false) := by
 intro q m ha
 have h10 : (Op.equalIn 10000 t (.agg ⟨xs.map (.int k)⟩) (.agg ⟨xs.map (.int k)⟩)).run P (World.dr w q) = .ok true (World.dr w q) := run_eqArr (d := 9999) hu he hE (fun a => (run_equalIn_int _ 9998 el k k a a he).trans (by rw [beq_self_eq_true])) xs hl
 simp only [execOp, ho, ha.eval hx, ha.eval hy, Sem.run_bind, run_eqGuard_agg _ .neq t x y _ _ hg, Result.andThen_ok, run_neq_struct, h10, Sem.run_pure, Bool.not_true]
end
theorem samePairs_calls (A B : Option Addr) (n n2 c c2 : Nat) (l : List (Nat × Nat)) (w : World) {ok ok2 : Nat → Prop} (hA : RdS w ok pC 2 A l) (hn : n = l.length) (hB : RdS w ok2 pC 2 B l) (hn2 : n2 = l.length) (hl : l.length ≤ 65536) :
 Calls Tryz.prog 66 ⟨[.slice A n c, .slice B n2 c2]⟩ w fun e w' => e = .returned (.bool true) ∧ Below w.heap.size w w' := by
 subst hn
 subst hn2
 refine gc_enter (N := 26) Tryz.func66 rfl rfl rfl [(0, _), (1, _)] rfl ?_
 have hS := St.start w
 refine gc_seq fun K1 hK1 => gc_region (Zp rfl (gl_nil (hK1 _ _ (gc_seq fun K2 hK2 => gc_seq fun K3 hK3 => gc_region (Zp rfl (Zp rfl (Zp rfl (Zp rfl (Zp rfl (gl_spell 10 (v := .bool false) rfl (by simp) ?_))))))))))
 refine gl_nil (hK3 _ _ (gc_cond_f rfl (gc_skip (hK2 _ _ (gc_seq fun K4 hK4 => gc_seq fun K5 hK5 => gc_region (Zp rfl (gl_nil (hK5 _ _ (gc_block (gc_loop (fun k a w' => ∃ i : Nat, Fr 26 a [(0, .slice A l.length c), (1, .slice B l.length c2), (5, .int .i64 (i : Nat))] ∧ i ≤ l.length ∧ k = l.length + 1 - i ∧ St w.heap.size w w' []) (l.length + 1) ?_ ?_ ?_))))))))))
 ·intro a ha; exact ⟨0, ha.sub ⟨rfl, rfl, rfl, trivial⟩, by omega, by omega, hS⟩
 ·rintro a w ⟨i, _, h1, h2, _⟩; omega
 rintro k a w1 ⟨i, hF, hi, hk, hS⟩
 refine gc_of hF ?_
 clear hF
 refine gc_seq fun K6 hK6 => gc_seq fun K7 hK7 => gc_region (Zp rfl (Zp rfl (Zp rfl (Zp rfl (gl_nil (hK7 _ _ (gc_cond rfl rfl (fun c14 => ?_) (fun c14 => ?_))))))))
 ·simp only [NN, reduceCtorEq] at c14
  refine gc_skip (hK6 _ _ (gc_seq fun K8 hK8 => gc_block (gc_seq fun K9 hK9 => gc_anyS hS (by kernel_rfl) rfl fun nq6 hK => ?_)))
  have hS := hS.dr nq6
  have hil : i < l.length := by omega
  obtain ⟨z, hz⟩ : ∃ z, l[i]? = some z := ⟨_, List.getElem?_eq_getElem hil⟩
  obtain ⟨a1, hA1, _⟩ := hA.at hz
  obtain ⟨b1, hB1, _⟩ := hB.at hz
  refine Yp 0 rfl (by kernel_rfl) (fun _ _ _ _ h => h) hK ?_
  refine Yp 1 rfl (by kernel_rfl) (fun _ _ _ _ h => h) hK ?_
  refine ga_take 2 rfl rfl rfl rfl (by kernel_rfl) (fun _ _ _ _ h => h) hK (fun w1 hS => op_indexAddr hT rfl rfl el136.cellsOf.1 el136.cellsOf.2 rfl rfl (by omega) (by omega) hA1) ?_
  refine ga_spell 19 (v := .pointer (some (a1.add (i * 2)))) rfl (by rw [Int.toNat_natCast]) ?_
  refine ga_take 3 rfl rfl rfl rfl (by kernel_rfl) (fun _ _ _ _ h => h) hK (fun w1 hS => op_loadS Tryz.underlying136 rfl el136 rfl rfl ((RdS.old hA (by decide) hS).cells hA1 hz) rfl) ?_
  refine Yp 4 rfl (by kernel_rfl) (fun _ _ _ _ h => h) hK ?_
  refine Yp 5 rfl (by kernel_rfl) (fun _ _ _ _ h => h) hK ?_
  refine ga_take 6 rfl rfl rfl rfl (by kernel_rfl) (fun _ _ _ _ h => h) hK (fun w1 hS => op_indexAddr hT rfl rfl el136.cellsOf.1 el136.cellsOf.2 rfl rfl (by omega) (by omega) hB1) ?_
  refine ga_spell 23 (v := .pointer (some (b1.add (i * 2)))) rfl (by rw [Int.toNat_natCast]) ?_
  refine ga_take 7 rfl rfl rfl rfl (by kernel_rfl) (fun _ _ _ _ h => h) hK (fun w1 hS => op_loadS Tryz.underlying136 rfl el136 rfl rfl ((RdS.old hB (by decide) hS).cells hB1 hz) rfl) ?_
  refine ga_take 8 rfl rfl rfl rfl (by kernel_rfl) (fun _ _ _ _ h => h) hK (fun w1 hS => op_neqA [((z.1 : Nat) : Int), ((z.2 : Nat) : Int)] Tryz.underlying136 Tryz.underlying77 el77 (by kernel_rfl) rfl rfl rfl rfl) ?_
  refine ga_done (by kernel_rfl) ?_
  refine hK9 _ _ (gc_cond_f rfl (gc_skip (hK8 _ _ (gc_region (Zp rfl (Zi rfl (by omega) ?_))))))
  refine Zp rfl (gl_nil ?_)
  intro a ha
  exact ⟨i + 1, ha.sub ⟨rfl, rfl, rfl, trivial⟩, by omega, by omega, hS⟩
 simp only [NN, reduceCtorEq] at c14
 refine gc_exit ?_
 refine hK4 _ _ (gc_seq fun K10 hK10 => gc_region (Zp rfl (gl_nil (hK10 _ _ (gc_ret (gk_ret1 rfl rfl ?_))))))
 exact ⟨rfl, hS.below⟩
set_option maxHeartbeats 4000000 in
set_option maxRecDepth 100000 in
theorem sameLayer_calls (L : Ly) (W B Z Y W' B' Z' Y' : Sv) (lw lb : List Nat) (lz lzb : List (Nat × Nat)) (w : World) {ok ok' : Nat → Prop} (D : LyU w ok ⟨wth L W B Z Y, lw, lb, lz, lzb⟩) (D' : LyU w ok' ⟨wth L W' B' Z' Y', lw, lb, lz, lzb⟩) (hw : lw.length ≤ 65536) (hb : lb.length ≤ 65536) (hz : lz.length ≤ 65536) (hy : lzb.length ≤ 65536) :
 Calls Tryz.prog 36 ⟨[.agg ⟨rlC (wth L W B Z Y)⟩, .agg ⟨rlC (wth L W' B' Z' Y')⟩]⟩ w fun e w' => e = .returned (.bool true) ∧ Below w.heap.size w w' := by
 obtain ⟨W1, W2, W3⟩ := W
 obtain ⟨B1, B2, B3⟩ := B
 obtain ⟨Z1, Z2, Z3⟩ := Z
 obtain ⟨Y1, Y2, Y3⟩ := Y
 obtain ⟨W1', W2', W3'⟩ := W'
 obtain ⟨B1', B2', B3'⟩ := B'
 obtain ⟨Z1', Z2', Z3'⟩ := Z'
 obtain ⟨Y1', Y2', Y3'⟩ := Y'
 refine gc_enter (N := 83) Tryz.func36 rfl rfl rfl [(0, _), (1, _)] rfl ?_
 have hS := St.start w
 refine gc_seq fun K1 hK1 => gc_region (gl_box hS rfl rfl rfl rfl rfl fun g2 w2 hS => ?_)
 refine gl_box hS rfl rfl rfl rfl rfl fun g3 w3 hS => ?_
 refine Zp rfl (gl_nil (hK1 _ _ (gc_seq fun K2 hK2 => gc_region (Zf 0 Tryz.underlying81 rfl el3 (Zb 0 hS rfl (Zf 1 Tryz.underlying81 rfl el3 (Zb 0 hS rfl (Zf 2 Tryz.underlying81 rfl el3 (Zb 0 hS rfl (Zf 3 Tryz.underlying81 rfl el3 (Zb 0 hS rfl (Zf 4 Tryz.underlying81 rfl el3 (Zb 0 hS rfl (Zf 5 Tryz.underlying81 rfl el3 (Zb 0 hS rfl (Zf 6 Tryz.underlying81 rfl el3 (Zb 0 hS rfl (Zf 7 Tryz.underlying81 rfl el3 (Zb 0 hS rfl (Zf 8 Tryz.underlying81 rfl el3 (Zb 0 hS rfl (gl_op rfl rfl rfl (op_buildG rfl plan129 rfl rfl) ?_))))))))))))))))))))))
 refine gl_alloc el129 hS rfl rfl rfl rfl fun g5 w5 hS => ?_
 refine gl_storeM 2 hS el129 rfl rfl rfl rfl rfl rfl rfl rfl rfl fun w_415 hS => ?_
 refine gl_nil (hK2 _ _ (gc_seq fun K3 hK3 => gc_region (Zf 0 Tryz.underlying81 rfl el3 (Zb 1 hS rfl (Zf 1 Tryz.underlying81 rfl el3 (Zb 1 hS rfl (Zf 2 Tryz.underlying81 rfl el3 (Zb 1 hS rfl (Zf 3 Tryz.underlying81 rfl el3 (Zb 1 hS rfl (Zf 4 Tryz.underlying81 rfl el3 (Zb 1 hS rfl (Zf 5 Tryz.underlying81 rfl el3 (Zb 1 hS rfl (Zf 6 Tryz.underlying81 rfl el3 (Zb 1 hS rfl (Zf 7 Tryz.underlying81 rfl el3 (Zb 1 hS rfl (Zf 8 Tryz.underlying81 rfl el3 (Zb 1 hS rfl (gl_op rfl rfl rfl (op_buildG rfl plan129 rfl rfl) ?_)))))))))))))))))))))
 refine gl_alloc el129 hS rfl rfl rfl rfl fun g6 w6 hS => ?_
 refine gl_storeM 3 hS el129 rfl rfl rfl rfl rfl rfl rfl rfl rfl fun w_416 hS => ?_
 refine gl_nil (hK3 _ _ (gc_seq fun K4 hK4 => gc_region (Zg 2 Tryz.underlying129 el129 hS rfl (Zg 3 Tryz.underlying129 el129 hS rfl (gl_op rfl rfl rfl (op_eqlA [L.k, L.out, L.kh, L.kw, L.sh, L.sw, L.ph, L.pw, L.fr] Tryz.underlying129 Tryz.underlying3 el3 (by kernel_rfl) rfl rfl rfl rfl) ?_)))))
 refine Zp rfl (Zu rfl (Zf 9 Tryz.underlying81 rfl el77 (Zu rfl (Zb 0 hS rfl (Zu rfl (Zf 9 Tryz.underlying81 rfl el77 (Zu rfl (Zb 1 hS rfl (Zu rfl (Zp rfl (gl_spell 53 (v := .bool true) rfl (by simp) ?_)))))))))))
 refine Zp rfl (Zp rfl (Zu rfl (Zf 10 Tryz.underlying81 rfl el78 (Zu rfl (Zb 0 hS rfl (Zu rfl (Zf 10 Tryz.underlying81 rfl el78 (Zu rfl (Zb 1 hS rfl (Zu rfl (gl_callf rfl rfl rfl rfl Tryz.func65 rfl rfl rfl (sameList_calls _ _ _ _ _ _ lw _ (D.rW.old hS) D.nW (D'.rW.old hS) D'.nW (by omega)) ?_)))))))))))
 rintro _ w60 ⟨rfl, hb60⟩
 refine ⟨_, rfl, ?_⟩
 have hS := hS.grown hb60
 refine Zp rfl (Zp rfl (Zu rfl (Zf 11 Tryz.underlying81 rfl el78 (Zu rfl (Zb 0 hS rfl (Zu rfl (Zf 11 Tryz.underlying81 rfl el78 (Zu rfl (Zb 1 hS rfl (Zu rfl (gl_callf rfl rfl rfl rfl Tryz.func65 rfl rfl rfl (sameList_calls _ _ _ _ _ _ lb _ (D.rB.old hS) D.nB (D'.rB.old hS) D'.nB (by omega)) ?_)))))))))))
 rintro _ w67 ⟨rfl, hb67⟩
 refine ⟨_, rfl, ?_⟩
 have hS := hS.grown hb67
 refine Zp rfl (Zp rfl (Zu rfl (Zf 12 Tryz.underlying81 rfl el79 (Zu rfl (Zb 0 hS rfl (Zu rfl (Zf 12 Tryz.underlying81 rfl el79 (Zu rfl (Zb 1 hS rfl (Zu rfl (gl_callf rfl rfl rfl rfl Tryz.func66 rfl rfl rfl (samePairs_calls _ _ _ _ _ _ lz _ (RdS.old D.rZ (by decide) hS) D.nZ (RdS.old D'.rZ (by decide) hS) D'.nZ hz) ?_)))))))))))
 rintro _ w74 ⟨rfl, hb74⟩
 refine ⟨_, rfl, ?_⟩
 have hS := hS.grown hb74
 refine Zp rfl (Zp rfl (Zu rfl (Zf 13 Tryz.underlying81 rfl el79 (Zu rfl (Zb 0 hS rfl (Zu rfl (Zf 13 Tryz.underlying81 rfl el79 (Zu rfl (Zb 1 hS rfl (Zu rfl (gl_callf rfl rfl rfl rfl Tryz.func66 rfl rfl rfl (samePairs_calls _ _ _ _ _ _ lzb _ (RdS.old D.rZB (by decide) hS) D.nZB (RdS.old D'.rZB (by decide) hS) D'.nZB hy) ?_)))))))))))
 rintro _ w81 ⟨rfl, hb81⟩
 refine ⟨_, rfl, ?_⟩
 have hS := hS.grown hb81
 refine Zp rfl (Zp rfl (gl_nil (hK4 _ _ (gc_ret ?_))))
 simp only [XR]
 refine gk_ret1 rfl rfl ?_
 exact ⟨rfl, hS.below⟩
theorem wts_le4 {x : Lx} (h : wtsV x ≤ 65536) : x.lw.length ≤ 65536 ∧ x.lb.length ≤ 65536 ∧ x.lz.length ≤ 65536 ∧ x.lzb.length ≤ 65536 := by unfold wtsV at h; omega
theorem LyU.old {w w' : World} {ok : Nat → Prop} {x : Lx} {L0 : List It} (h : LyU w ok x) (hS : St w.heap.size w w' L0) : LyU w' ok x :=
 ⟨h.okL, h.rW.old hS, h.nW, h.rB.old hS, h.nB, RdS.old h.rZ (by decide) hS, h.nZ, RdS.old h.rZB (by decide) hS, h.nZB⟩
theorem sameLayer2_calls (L L' : Ly) (x : Lx) (w : World) {ok ok' : Nat → Prop} (D : LyU w ok ⟨L, x.lw, x.lb, x.lz, x.lzb⟩) (D' : LyU w ok' ⟨L', x.lw, x.lb, x.lz, x.lzb⟩) (h : bare L = bare L') (hw : wtsV x ≤ 65536) :
 Calls Tryz.prog 36 ⟨[.agg ⟨rlC L⟩, .agg ⟨rlC L'⟩]⟩ w fun e w' => e = .returned (.bool true) ∧ Below w.heap.size w w' := by
 have h4 := wts_le4 hw
 have e1 : L = wth (bare L) L.W L.B L.Z L.ZB := rfl
 have e2 : L' = wth (bare L) L'.W L'.B L'.Z L'.ZB := by rw [h]
 have h5 := sameLayer_calls (bare L) L.W L.B L.Z L.ZB L'.W L'.B L'.Z L'.ZB x.lw x.lb x.lz x.lzb w D (by rw [← e2]; exact D') h4.1 h4.2.1 h4.2.2.1 h4.2.2.2
 rw [← e2] at h5
 exact h5
set_option maxHeartbeats 4000000 in
set_option maxRecDepth 100000 in
theorem sameNet_calls (AL AN AL' AN' : Option Addr) (cL cN cL' cN' : Nat) (Ls Ls' : List Ly) (q : Nx) (w : World) {ok ok' : Nat → Prop} (D : NtU w ok AL AN Ls q) (D' : NtU w ok' AL' AN' Ls' q) (hx : q.xs.length ≤ 64) (hn : q.ns.length ≤ 256) (hw : ∀ x ∈ q.xs, wtsV x ≤ 65536) :
 Calls Tryz.prog 10 ⟨[.agg ⟨ntC q.s (AL, Ls.length, cL) (AN, q.ns.length, cN)⟩, .agg ⟨ntC q.s (AL', Ls'.length, cL') (AN', q.ns.length, cN')⟩]⟩ w fun e w' => e = .returned (.bool true) ∧ Below w.heap.size w w' := by
 have hl := D.ly.1
 have hl' := D'.ly.1
 obtain ⟨m, hm⟩ : ∃ m, m = Ls.length := ⟨_, rfl⟩
 have hm' : Ls'.length = m := by omega
 rw [← hm, hm']
 refine gc_enter (N := 67) Tryz.func10 rfl rfl rfl [(0, _), (1, _)] rfl ?_
 have hS := St.start w
 refine gc_seq fun K1 hK1 => gc_region (gl_box hS rfl rfl rfl rfl rfl fun g2 w2 hS => ?_)
 refine gl_box hS rfl rfl rfl rfl rfl fun g3 w3 hS => ?_
 refine Zp rfl (gl_nil (hK1 _ _ (gc_seq fun K2 hK2 => gc_seq fun K3 hK3 => gc_region (Zf 0 Tryz.underlying37 rfl el27 (Zg 0 Tryz.underlying27 el27 hS rfl (Zf 0 Tryz.underlying37 rfl el27 (Zg 1 Tryz.underlying27 el27 hS rfl (gl_op rfl rfl rfl (op_neq3 shape_three rfl rfl rfl) ?_))))))))
 refine gl_spell 11 (v := .bool false) rfl (by simp) ?_
 refine Zp rfl (Zu rfl (Zf 3 Tryz.underlying37 rfl el35 (Zu rfl (Zb 0 hS rfl (Zu rfl (Zp rfl (Zu rfl (Zf 3 Tryz.underlying37 rfl el35 (Zu rfl (Zb 1 hS rfl (Zu rfl (Zp rfl (Zu rfl (Zp rfl (gl_spell 19 (v := .bool false) rfl (by simp) ?_)))))))))))))))
 refine Zp rfl (Zp rfl (Zu rfl (Zf 4 Tryz.underlying37 rfl el29 (Zu rfl (Zb 0 hS rfl (Zu rfl (Zp rfl (Zu rfl (Zf 4 Tryz.underlying37 rfl el29 (Zu rfl (Zb 1 hS rfl (Zu rfl (Zp rfl (Zu rfl (Zp rfl (gl_spell 28 (v := .bool false) rfl (by simp) ?_))))))))))))))))
 refine Zp rfl (gl_nil (hK3 _ _ (gc_cond_f rfl (gc_skip (hK2 _ _ (gc_seq fun K4 hK4 => gc_seq fun K5 hK5 => gc_region (Zp rfl (gl_nil (hK5 _ _ (gc_block (gc_loop (fun k a w' => ∃ i : Nat, Fr 67 a [(2, .pointer (some ⟨g2, 0, none⟩)), (3, .pointer (some ⟨g3, 0, none⟩)), (5, .int .i64 (i : Nat))] ∧ i ≤ m ∧ k = m + 1 - i ∧ St w.heap.size w w' [.blk g2 37 (ntC q.s (AL, m, cL) (AN, q.ns.length, cN)), .blk g3 37 (ntC q.s (AL', m, cL') (AN', q.ns.length, cN'))]) (m + 1) ?_ ?_ ?_)))))))))))
 ·intro a ha; exact ⟨0, ha.sub ⟨rfl, rfl, rfl, trivial⟩, by omega, by omega, hS⟩
 ·rintro a w ⟨i, _, h1, h2, _⟩; omega
 clear hS
 rintro k a w1 ⟨i, hF, hi, hk, hS⟩
 refine gc_of hF ?_
 clear hF
 refine gc_seq fun K6 hK6 => gc_seq fun K7 hK7 => gc_region (Zp rfl (Zf 3 Tryz.underlying37 rfl el35 (Zb 0 hS rfl (Zp rfl (Zp rfl (gl_nil (hK7 _ _ (gc_cond rfl rfl (fun c34 => ?_) (fun c34 => ?_)))))))))
 ·simp only [NN, reduceCtorEq] at c34
  refine gc_skip (hK6 _ _ (gc_seq fun K8 hK8 => gc_block (gc_seq fun K9 hK9 => gc_anyS hS (by kernel_rfl) rfl fun nq6 hK => ?_)))
  have hS := hS.dr nq6
  obtain ⟨L, hL⟩ : ∃ L, Ls[i]? = some L := ⟨_, List.getElem?_eq_getElem (by omega)⟩
  obtain ⟨L', hL'⟩ : ∃ L', Ls'[i]? = some L' := ⟨_, List.getElem?_eq_getElem (by omega)⟩
  obtain ⟨x, hx1⟩ : ∃ x, q.xs[i]? = some x := ⟨_, List.getElem?_eq_getElem (by omega)⟩
  obtain ⟨a1, hA1, _⟩ := RdS.at D.rL hL
  obtain ⟨b1, hB1, _⟩ := RdS.at D'.rL hL'
  have h1 := D.ly.2 i L x hL hx1
  have h2 := D'.ly.2 i L' x hL' hx1
  refine Yf 0 3 Tryz.underlying37 rfl el35 (by kernel_rfl) (fun _ _ _ _ h => h) hK ?_
  refine Yb 1 0 rfl (by kernel_rfl) (fun _ _ _ _ h => h) hK ?_
  refine Yp 2 rfl (by kernel_rfl) (fun _ _ _ _ h => h) hK ?_
  refine ga_take 3 rfl rfl rfl rfl (by kernel_rfl) (fun _ _ _ _ h => h) hK (fun w1 hS => op_indexAddr hT rfl rfl el81.cellsOf.1 el81.cellsOf.2 rfl rfl (by omega) (by omega) hA1) ?_
  refine ga_spell 40 (v := .pointer (some (a1.add (i * 14)))) rfl (by rw [Int.toNat_natCast]) ?_
  refine ga_take 4 rfl rfl rfl rfl (by kernel_rfl) (fun _ _ _ _ h => h) hK (fun w1 hS => op_loadS Tryz.underlying81 rfl el81 rfl rfl ((RdS.old D.rL (by decide) hS).cells hA1 hL) rfl) ?_
  refine Yf 5 3 Tryz.underlying37 rfl el35 (by kernel_rfl) (fun _ _ _ _ h => h) hK ?_
  refine Yb 6 1 rfl (by kernel_rfl) (fun _ _ _ _ h => h) hK ?_
  refine Yp 7 rfl (by kernel_rfl) (fun _ _ _ _ h => h) hK ?_
  refine ga_take 8 rfl rfl rfl rfl (by kernel_rfl) (fun _ _ _ _ h => h) hK (fun w1 hS => op_indexAddr hT rfl rfl el81.cellsOf.1 el81.cellsOf.2 rfl rfl (by omega) (by omega) hB1) ?_
  refine ga_spell 45 (v := .pointer (some (b1.add (i * 14)))) rfl (by rw [Int.toNat_natCast]) ?_
  refine ga_take 9 rfl rfl rfl rfl (by kernel_rfl) (fun _ _ _ _ h => h) hK (fun w1 hS => op_loadS Tryz.underlying81 rfl el81 rfl rfl ((RdS.old D'.rL (by decide) hS).cells hB1 hL') rfl) ?_
  refine ga_one 10 (by kernel_rfl) rfl ?_
  refine gl_callf rfl rfl rfl rfl Tryz.func36 rfl rfl rfl (sameLayer2_calls L L' x _ (h1.1.old hS) (h2.1.old hS) (h1.2.trans h2.2.symm) (hw x (List.mem_of_getElem? hx1))) ?_
  rintro _ w47 ⟨rfl, hb47⟩
  refine ⟨_, rfl, ?_⟩
  have hS := hS.grown hb47
  refine gl_nil (ga_next (hS.pre 2) fun hK => ?_)
  refine Yp 11 rfl (by kernel_rfl) (fun _ _ _ _ h => h) hK ?_
  refine ga_done (by kernel_rfl) ?_
  refine hK9 _ _ (gc_cond_f rfl (gc_skip (hK8 _ _ (gc_region (Zp rfl (Zi rfl (by omega) ?_))))))
  refine Zp rfl (gl_nil ?_)
  intro a ha
  exact ⟨i + 1, ha.sub ⟨rfl, rfl, rfl, trivial⟩, by omega, by omega, hS⟩
 simp only [NN, reduceCtorEq] at c34
 refine gc_exit ?_
 refine hK4 _ _ (gc_seq fun K10 hK10 => gc_seq fun K11 hK11 => gc_region (Zp rfl (gl_nil (hK11 _ _ (gc_block (gc_loop (fun k a w' => ∃ i : Nat, Fr 67 a [(2, .pointer (some ⟨g2, 0, none⟩)), (3, .pointer (some ⟨g3, 0, none⟩)), (6, .int .i64 (i : Nat))] ∧ i ≤ q.ns.length ∧ k = q.ns.length + 1 - i ∧ St w.heap.size w w' [.blk g2 37 (ntC q.s (AL, m, cL) (AN, q.ns.length, cN)), .blk g3 37 (ntC q.s (AL', m, cL') (AN', q.ns.length, cN'))]) (q.ns.length + 1) ?_ ?_ ?_))))))
 ·intro a ha; exact ⟨0, ha.sub ⟨rfl, rfl, rfl, trivial⟩, by omega, by omega, hS⟩
 ·rintro a w ⟨i, _, h1, h2, _⟩; omega
 clear hS
 rintro k a w1 ⟨i, hF, hi, hk, hS⟩
 refine gc_of hF ?_
 clear hF
 refine gc_seq fun K12 hK12 => gc_seq fun K13 hK13 => gc_region (Zp rfl (Zf 4 Tryz.underlying37 rfl el29 (Zb 0 hS rfl (Zp rfl (Zp rfl (gl_nil (hK13 _ _ (gc_cond rfl rfl (fun c53 => ?_) (fun c53 => ?_)))))))))
 ·simp only [NN, reduceCtorEq] at c53
  refine gc_skip (hK12 _ _ (gc_seq fun K14 hK14 => gc_block (gc_seq fun K15 hK15 => gc_anyS hS (by kernel_rfl) rfl fun nq11 hK => ?_)))
  have hS := hS.dr nq11
  obtain ⟨u, hu⟩ : ∃ u, q.ns[i]? = some u := ⟨_, List.getElem?_eq_getElem (by omega)⟩
  have hug : q.ns.getD ((i : Int)).toNat ⟨#[]⟩ = u := by rw [Int.toNat_natCast, List.getD_eq_getElem?_getD, hu]; rfl
  obtain ⟨adA, hAA, hcA⟩ := D.rN.at ⟨#[]⟩ (i := (i : Int)) (by omega) (by omega)
  obtain ⟨adB, hAB, hcB⟩ := D'.rN.at ⟨#[]⟩ (i := (i : Int)) (by omega) (by omega)
  rw [hug] at hcA hcB
  refine Yf 0 4 Tryz.underlying37 rfl el29 (by kernel_rfl) (fun _ _ _ _ h => h) hK ?_
  refine Yb 1 0 rfl (by kernel_rfl) (fun _ _ _ _ h => h) hK ?_
  refine Yp 2 rfl (by kernel_rfl) (fun _ _ _ _ h => h) hK ?_
  refine ga_take 3 rfl rfl rfl rfl (by kernel_rfl) (fun _ _ _ _ h => h) hK (fun w1 hS => op_indexAddr hT rfl rfl el9.cellsOf.1 el9.cellsOf.2 rfl rfl (by omega) (by omega) hAA) ?_
  refine ga_take 4 rfl rfl rfl rfl (by kernel_rfl) (fun _ _ _ _ h => h) hK (fun w1 hS => op_load hT rfl rfl rfl rfl (cellOf hS.below hcA)) ?_
  refine Yf 5 4 Tryz.underlying37 rfl el29 (by kernel_rfl) (fun _ _ _ _ h => h) hK ?_
  refine Yb 6 1 rfl (by kernel_rfl) (fun _ _ _ _ h => h) hK ?_
  refine Yp 7 rfl (by kernel_rfl) (fun _ _ _ _ h => h) hK ?_
  refine ga_take 8 rfl rfl rfl rfl (by kernel_rfl) (fun _ _ _ _ h => h) hK (fun w1 hS => op_indexAddr hT rfl rfl el9.cellsOf.1 el9.cellsOf.2 rfl rfl (by omega) (by omega) hAB) ?_
  refine ga_take 9 rfl rfl rfl rfl (by kernel_rfl) (fun _ _ _ _ h => h) hK (fun w1 hS => op_load hT rfl rfl rfl rfl (cellOf hS.below hcB)) ?_
  refine Yp 10 rfl (by kernel_rfl) (fun _ _ _ _ h => h) hK ?_
  refine ga_spell 66 (v := .bool false) rfl (by simp) ?_
  refine ga_done (by kernel_rfl) ?_
  refine hK15 _ _ (gc_cond_f rfl (gc_skip (hK14 _ _ (gc_region (Zp rfl (Zi rfl (by omega) ?_))))))
  refine Zp rfl (gl_nil ?_)
  intro a ha
  exact ⟨i + 1, ha.sub ⟨rfl, rfl, rfl, trivial⟩, by omega, by omega, hS⟩
 simp only [NN, reduceCtorEq] at c53
 refine gc_exit ?_
 refine hK10 _ _ (gc_seq fun K16 hK16 => gc_region (Zp rfl (gl_nil (hK16 _ _ (gc_ret ?_)))))
 simp only [XR]
 refine gk_ret1 rfl rfl ?_
 exact ⟨rfl, hS.below⟩
end Go.Proofs.YtnomlloaahoceaaGreatDoor
