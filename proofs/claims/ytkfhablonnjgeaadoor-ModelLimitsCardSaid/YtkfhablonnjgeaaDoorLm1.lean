/- The contract of ModelLimits. No condition. -/
import Derived.Test.YtkfhablonnjgeaaDoorTo6
import Derived.Test.YtkfhablonnjgeaaDoorLibY
import Derived.Test.YtkfhablonnjgeaaDoorLmS
namespace Go.Proofs.YtkfhablonnjgeaaDoor
open Go.RowKit
set_option linter.unusedVariables false
set_option linter.unusedSimpArgs false
def sumW (xs : List Lx) : Int := (xs.map wtsV).sum
theorem sumW_app (xs ys : List Lx) : sumW (xs ++ ys) = sumW xs + sumW ys := by unfold sumW; simp
theorem weightsAll_calls (s0 : Sh) (A : Option Addr) (c : Nat) (xs : List Lx) (w : World) {ok : Nat → Prop} (hrd : RdS w ok lxC 14 A xs) (hD : ∀ x ∈ xs, LyM w ok x) (hn : xs.length ≤ 70) :
    Calls Tryd.prog 16 ⟨[.agg ⟨netC s0 A xs.length c⟩]⟩ w fun e w' => e = .returned (.int .i64 (sumW xs)) ∧ Below w.heap.size w w' := by
  refine gc_enter (N := 19) Tryd.func16 rfl rfl rfl [(0, _)] rfl ?_
  have hS := St.start w
  refine gc_seq fun K1 hK1 => ?_
  refine gc_region ?_
  refine gl_box hS rfl rfl rfl rfl rfl fun g1 w1 hS => ?_
  refine gl_op rfl rfl rfl (op_pure hT rfl) ?_
  refine gl_nil ?_
  refine hK1 _ _ ?_
  clear hK1; try clear K1
  refine gc_seq fun K2 hK2 => ?_
  refine gc_region ?_
  refine gl_op rfl rfl rfl (op_pure hT rfl) ?_
  refine gl_nil ?_
  refine hK2 _ _ ?_
  clear hK2; try clear K2
  refine gc_seq fun K3 hK3 => ?_
  refine gc_seq fun K4 hK4 => ?_
  refine gc_region ?_
  refine gl_op rfl rfl rfl (op_fieldB 3 rfl Tryd.underlying53 rfl el45 rfl rfl) ?_
  refine gl_op rfl rfl rfl (op_loadB 0 hT hS rfl rfl rfl rfl rfl rfl) ?_
  refine gl_op rfl rfl rfl (op_pure hT rfl) ?_
  refine gl_op rfl rfl rfl (op_pure hT rfl) ?_
  refine gl_nil ?_
  refine hK4 _ _ ?_
  clear hK4; try clear K4
  refine gc_block ?_
  refine gc_loop (fun k a w' => ∃ (i : Nat) (wt : Int), Fr 19 a [(3, .int .i64 wt), (7, .slice A xs.length c), (8, .int .i64 (xs.length : Nat)), (9, .int .i64 (i : Nat))] ∧ i ≤ xs.length ∧ k = xs.length + 1 - i ∧ wt = sumW (xs.take i) ∧ (0 ≤ wt ∧ wt ≤ i * 1000000000000000) ∧ St w.heap.size w w' []) (xs.length + 1) ?_ ?_ ?_
  · intro a ha; exact ⟨0, 0, ha.sub ⟨rfl, rfl, rfl, rfl, trivial⟩, by omega, by omega, rfl, by omega, hS.pre 0⟩
  · rintro a w' ⟨i, _, _, h1, h2, _⟩; omega
  rintro k a w1 ⟨i, wt, hF, hi, hk, hwt, hwb, hS⟩
  refine gc_of hF ?_
  clear hF
  refine gc_seq fun K5 hK5 => ?_
  refine gc_region ?_
  refine gl_op rfl rfl rfl (op_pure hT rfl) ?_
  refine gl_nil ?_
  refine hK5 _ _ ?_
  clear hK5; try clear K5
  refine gc_seq fun K6 hK6 => ?_
  refine gc_cond rfl rfl (fun c10 => ?_) (fun c10 => ?_)
  · try simp only [decide_eq_true_eq, decide_eq_false_iff_not, Bool.not_eq_true', Bool.not_eq_false', Int.not_lt, Int.not_le, Nat.not_lt, Nat.not_le, Bool.true_eq, Bool.false_eq, reduceCtorEq] at c10
    refine gc_skip ?_
    refine hK6 _ _ ?_
    clear hK6; try clear K6
    refine gc_seq fun K7 hK7 => ?_
    refine gc_block ?_
    refine gc_seq fun K8 hK8 => ?_
    refine gc_region ?_
    have hil : i < xs.length := by omega
    obtain ⟨x, hx⟩ : ∃ x, xs[i]? = some x := ⟨_, List.getElem?_eq_getElem hil⟩
    have hxm := List.mem_of_getElem? hx
    obtain ⟨adx, hAx, hcx⟩ := (hrd.old (by decide) hS).at hx
    have htake : xs.take (i + 1) = xs.take i ++ [x] := by rw [List.take_add_one, hx]; rfl
    have hwv : 0 ≤ wtsV x ∧ wtsV x ≤ 1000000000000000 := by
      have := (hD x hxm).lW
      have := (hD x hxm).lB
      have := (hD x hxm).lZ
      have := (hD x hxm).lZB
      unfold wtsV
      omega
    have hsum : sumW (xs.take (i + 1)) = wt + wtsV x := by rw [htake, sumW_app, hwt]; simp [sumW]
    refine gl_op rfl rfl rfl (op_indexAddr hT rfl rfl el49.cellsOf.1 el49.cellsOf.2 rfl rfl (by omega) (by omega) hAx) ?_
    refine gl_op rfl rfl rfl (op_loadS Tryd.underlying49 rfl el49 rfl rfl hcx rfl) ?_
    refine gl_alloc el49 hS rfl rfl rfl rfl fun g5 w5 hS => ?_
    refine gl_storeM 0 hS el49 rfl rfl rfl rfl rfl rfl rfl rfl rfl fun wmodel_go_166 hS => ?_
    refine gl_nil ?_
    refine hK8 _ _ ?_
    clear hK8; try clear K8
    refine gc_region ?_
    refine gl_op rfl rfl rfl (op_pure hT rfl) ?_
    refine gl_op rfl rfl rfl (op_loadG 0 Tryd.underlying49 rfl el49 hS rfl rfl rfl rfl rfl) ?_
    refine gl_callf rfl rfl rfl rfl Tryd.func33 rfl rfl rfl (weights_calls x _ ((hD x hxm).old hS)) ?_
    rintro _ w15 ⟨rfl, hb15⟩
    refine ⟨_, rfl, ?_⟩
    have hS := hS.grown hb15
    refine gl_fit hT rfl rfl rfl rfl (by omega) ?_
    refine gl_op rfl rfl rfl (op_pure hT rfl) ?_
    refine gl_nil ?_
    refine hK7 _ _ ?_
    clear hK7; try clear K7
    refine gc_region ?_
    first | refine gl_fit hT rfl rfl rfl rfl (by omega) ?_ | refine gl_op rfl rfl rfl (op_pure hT rfl) ?_
    refine gl_op rfl rfl rfl (op_pure hT rfl) ?_
    refine gl_nil ?_
    intro a ha
    exact ⟨i + 1, wt + wtsV x, ha.sub ⟨rfl, rfl, rfl, rfl, trivial⟩, by omega, by omega, hsum.symm, by omega, hS.pre 0⟩
  · try simp only [decide_eq_true_eq, decide_eq_false_iff_not, Bool.not_eq_true', Bool.not_eq_false', Int.not_lt, Int.not_le, Nat.not_lt, Nat.not_le, Bool.true_eq, Bool.false_eq, reduceCtorEq] at c10
    refine gc_exit ?_
    refine hK3 _ _ ?_
    clear hK3; try clear K3
    refine gc_seq fun K9 hK9 => ?_
    refine gc_region ?_
    refine gl_op rfl rfl rfl (op_pure hT rfl) ?_
    refine gl_op rfl rfl rfl (op_pure hT rfl) ?_
    refine gl_nil ?_
    refine hK9 _ _ ?_
    clear hK9; try clear K9
    refine gc_ret ?_
    try simp only [x_then_ret, x_block_ret]
    refine gk_ret1 rfl rfl ?_
    have hie : xs.take i = xs := List.take_of_length_le (by omega)
    rw [hie] at hwt
    exact ⟨by rw [hwt], hS.below⟩
theorem limX_ok (out : Int) (n m : Nat) (A C : Option Addr) (h : i64 out) : (limL out n m A C).L.ok := ⟨show i64 1 by decide, h, show i64 0 by decide, show i64 0 by decide, show i64 0 by decide, show i64 0 by decide, show i64 0 by decide, show i64 0 by decide, show i64 0 by decide, show (0 : Nat) < 18446744073709551616 by decide⟩
theorem lim_lyM {w : World} {out : Int} {n m : Nat} {A C : Option Addr} (h : i64 out) (hA : RdE w All fV A (List.replicate n 0)) (hC : RdE w All fV C (List.replicate m 0)) (hn : n ≤ 17592186044416) (hm : m ≤ 17592186044416) : LyM w All (limL out n m A C) :=
  ⟨limX_ok out n m A C h, hA, (List.length_replicate ..).symm, hC, (List.length_replicate ..).symm, RdE.nil _ _, rfl, RdE.nil _ _, rfl, rep_lt n, rep_lt m, List.forall_mem_nil _, List.forall_mem_nil _, by simpa using hn, by simpa using hm, Nat.zero_le _, Nat.zero_le _⟩
theorem two_lyM {w : World} {A C A' C' : Option Addr} (hA : RdE w All fV A (List.replicate 65280 0)) (hC : RdE w All fV C (List.replicate 255 0)) (hA' : RdE w All fV A' (List.replicate 255 0)) (hC' : RdE w All fV C' (List.replicate 1 0)) : ∀ x ∈ [limL 255 65280 255 A C, limL 1 255 1 A' C'], LyM w All x := by
  intro x hx
  simp only [List.mem_cons, List.not_mem_nil, or_false] at hx
  rcases hx with rfl | rfl
  · exact lim_lyM (by decide) hA hC (by decide) (by decide)
  · exact lim_lyM (by decide) hA' hC' (by decide) (by decide)
theorem one_lyM {w : World} {A C : Option Addr} (hA : RdE w All fV A (List.replicate 65280 0)) (hC : RdE w All fV C (List.replicate 255 0)) : ∀ x ∈ [limL 255 65280 255 A C], LyM w All x := by
  intro x hx
  rw [List.mem_singleton] at hx
  rw [hx]
  exact lim_lyM (by decide) hA hC (by decide) (by decide)
/-- Slices, each of a list of so many noughts. -/
def Nul (w : World) (ok : Nat → Prop) (k : Nat) (S : List Sv) : Prop := ∀ x ∈ S, RdE w ok fV x.1 (List.replicate k 0) ∧ x.2.1 = k
theorem Nul.nil {w : World} {ok : Nat → Prop} {k : Nat} : Nul w ok k [] := fun x hx => nomatch hx
theorem Nul.keep {w w0 : World} {B : Nat} {L : List It} (hS : St B w0 w L) {i : Nat} {ok : Nat → Prop} {wk : World} (hi : L[i]? = some (.keep ok wk)) {k : Nat} {S : List Sv} (h : Nul wk ok k S) : Nul w ok k S := fun x hx => ⟨hS.keepRd hi (h x hx).1, (h x hx).2⟩
theorem Nul.weaken {w : World} {ok ok' : Nat → Prop} {k : Nat} {S : List Sv} (h : Nul w ok k S) (hok : ∀ b, ok b → ok' b) : Nul w ok' k S := fun x hx => ⟨Rd.weaken (h x hx).1 hok, (h x hx).2⟩
theorem Nul.snoc {w : World} {ok : Nat → Prop} {k : Nat} {S : List Sv} {x : Sv} (h : Nul w ok k S) (h1 : RdE w ok fV x.1 (List.replicate k 0)) (h2 : x.2.1 = k) : Nul w ok k (S ++ [x]) := by
  intro y hy
  rcases List.mem_append.1 hy with hy | hy
  · exact h y hy
  · rw [List.mem_singleton] at hy; rw [hy]; exact ⟨h1, h2⟩
theorem Nul.lsM {w : World} {ok : Nat → Prop} {k m : Nat} {S : List Sv} {A : Option Addr} (h : Nul w ok k S) (hA : RdE w ok svV A S) (hl : S.length = m) (hk : k ≤ 17592186044416) : LsM w ok A S (List.replicate m (List.replicate k 0)) := by
  refine ⟨hA, by rw [hl, List.length_replicate], fun i x l h1 h2 => ?_⟩
  have hx := h x (List.mem_of_getElem? h1)
  have hl2 : l = List.replicate k 0 := (List.mem_replicate.1 (List.mem_of_getElem? h2)).2
  subst hl2
  exact ⟨hx.1, by rw [hx.2, List.length_replicate], by rw [List.length_replicate]; exact hk, rep_lt k⟩
theorem lim_prM {w : World} {k g m : Nat} {K D S : Int} {AC AG AM : Option Addr} {cG cM : Nat} {SG SM : List Sv} (hk : k ≤ 256) (hg : g ≤ 1000) (hm : m ≤ 1000) (hK : i64 K) (hD : i64 D) (hS : i64 S) (hC : RdE w All fV AC (List.replicate k 0)) (hG : RdE w All svV AG SG) (hM : RdE w All svV AM SM) (nG : Nul w All k SG) (nM : Nul w All 2 SM) (lG : SG.length = g) (lM : SM.length = m) :
    PrM w All (AC, k, k) (AG, g, cG) (AM, m, cM) SG SM (limP k g m K D S) :=
  ⟨hC, (List.length_replicate ..).symm, by rw [List.length_replicate]; omega, rep_lt k, nG.lsM hG lG (by omega), (List.length_replicate ..).symm, by rw [List.length_replicate]; omega, nM.lsM hM lM (by omega), (List.length_replicate ..).symm, by rw [List.length_replicate]; omega, show i64 (-1) by decide, hK, hD, hS⟩
theorem app_set {α : Type} {enc : α → Value} (S : List α) (x z : α) (n j : Nat) (hj : S.length = j) (h : j < n) : (S.map enc ++ List.replicate (n - j) (enc z)).set j (enc x) = (S ++ [x]).map enc ++ List.replicate (n - (j + 1)) (enc z) := by
  rw [show n - j = (n - (j + 1)) + 1 by omega, List.replicate_succ, List.set_append_right _ _ (by simp [hj]), List.length_map, hj, Nat.sub_self, List.set_cons_zero, List.map_append, List.append_assoc]; rfl
theorem limR_lyM {w : World} : ∀ n, ∀ x ∈ List.replicate n limR, LyM w All x := by
  intro n x hx
  rw [(List.mem_replicate.1 hx).2]
  exact lyM_nil ⟨by decide, by decide, by decide, by decide, by decide, by decide, by decide, by decide, by decide, by decide⟩ rfl rfl rfl rfl rfl rfl rfl rfl
end Go.Proofs.YtkfhablonnjgeaaDoor
