/- Contracts of functions that CodeNetBytes reaches, and words to say them. No condition. -/
import Derived.Test.YtnomlloaahoceaaGreatDoorZ33
import Derived.Test.YtnomlloaahoceaaGreatDoorZ35
import Derived.Test.YtnomlloaahoceaaGreatDoorZ03
/- Contracts: reads, CodeNetBytes. No condition. -/
namespace Go.Proofs.YtnomlloaahoceaaGreatDoor
open Go.RowKit
set_option linter.unusedVariables false
set_option linter.unusedSimpArgs false
theorem NtM.keepC {w w0 : World} {B : Nat} {L : List It} (hS : St B w0 w L) {i : Nat} {ok : Nat → Prop} {wk : World} (hi : L[i]? = some (.keep ok wk)) {AL AN : Option Addr} {Ls : List Ly} {q : Nx} (h : NtM wk ok AL AN Ls q) : NtM w ok AL AN Ls q :=
 ⟨⟨hS.keepRd hi h.rL.1, h.rL.2⟩, h.ly.lift fun r => hS.keepRd hi r, hS.keepRd hi h.rN, h.nL, h.nN, h.fN, h.wt, h.iS⟩
theorem NtU.keepC {w w0 : World} {B : Nat} {L : List It} (hS : St B w0 w L) {i : Nat} {ok : Nat → Prop} {wk : World} (hi : L[i]? = some (.keep ok wk)) {AL AN : Option Addr} {Ls : List Ly} {q : Nx} (h : NtU wk ok AL AN Ls q) : NtU w ok AL AN Ls q :=
 ⟨⟨hS.keepRd hi h.rL.1, h.rL.2⟩, h.ly.lift fun r => hS.keepRd hi r, hS.keepRd hi h.rN⟩
def toldN (l : List UInt8) : Nx × Int × Int := match decNetV l with | .error (x, y) => (⟨zSh, [], []⟩, x, y) | .ok q => (q, 0, 0)
theorem rdS_nil {α : Type} {w : World} {ok : Nat → Prop} {enc : α → List Value} {sz : Nat} (h : ∀ x, (enc x).length = sz) : RdS w ok enc sz none ([] : List α) := ⟨⟨by simp, fun h => absurd h (Nat.lt_irrefl 0)⟩, h⟩
theorem dnR_one {l : List UInt8} {w w' : World} {e : Ending} (h : dnR l w e w') : ∃ AL cL AN cN Ls K, e = .returned (.tuple #[.agg ⟨ntC (toldN l).1.s (AL, Ls.length, cL) (AN, (toldN l).1.ns.length, cN)⟩, .int .i64 (toldN l).2.1, .int .i64 (toldN l).2.2]) ∧ St w.heap.size w w' [.keep K w'] ∧ NtM w' K AL AN Ls (toldN l).1 := by
 rcases h with ⟨x, y, hx, rfl, hb⟩ | ⟨q, AL, cL, AN, cN, Ls, K, hx, rfl, hS, hP⟩
 ·unfold toldN
  rw [hx]
  exact ⟨none, 0, none, 0, [], _, rfl, ((St.start w).grown hb).keep0, ⟨rdS_nil fun _ => rfl, ⟨rfl, fun i L x h => by simp at h⟩, RdE.nil _ none, Nat.zero_le _, Nat.zero_le _, fun t ht => (by cases ht), fun x hx => (by cases hx), ⟨i64_0, i64_0, i64_0⟩⟩⟩
 unfold toldN
 rw [hx]
 exact ⟨AL, cL, AN, cN, Ls, K, rfl, hS, hP⟩
theorem drR2_one {l : List UInt8} {w w' : World} {e : Ending} (h : drR2 l w e w') : ∃ AL cL AN cN Ls K, e = .returned (.tuple #[.agg ⟨ntC (toldN l).1.s (AL, Ls.length, cL) (AN, (toldN l).1.ns.length, cN)⟩, .int .i64 (toldN l).2.1, .int .i64 (toldN l).2.2]) ∧ St w.heap.size w w' [.keep K w'] ∧ NtU w' K AL AN Ls (toldN l).1 := by
 rcases h with ⟨x, y, hx, rfl, hb⟩ | ⟨q, AL, cL, AN, cN, Ls, K, hx, rfl, hS, hP⟩
 ·unfold toldN
  rw [hx]
  exact ⟨none, 0, none, 0, [], _, rfl, ((St.start w).grown hb).keep0, ⟨rdS_nil fun _ => rfl, ⟨rfl, fun i L x h => by simp at h⟩, RdE.nil _ none⟩⟩
 unfold toldN
 rw [hx]
 exact ⟨AL, cL, AN, cN, Ls, K, rfl, hS, hP⟩
set_option maxHeartbeats 4000000 in
set_option maxRecDepth 100000 in
theorem reads_calls (A : Option Addr) (n c : Nat) (l : List UInt8) (w : World) {ok : Nat → Prop} (h1 : RdE w ok uB A l) (hn : n = l.length) (hc : n ≤ c) (hb : l.length ≤ 140737488351232) (hU : Tabs w) :
 Calls Tryz.prog 4 ⟨[.slice A n c]⟩ w fun e w' => e = .returned (.bool true) ∧ Below w.heap.size w w' := by
 subst hn
 obtain ⟨tp, htp⟩ : ∃ tp, tp = toldN l := ⟨_, rfl⟩
 refine gc_enter (N := 44) Tryz.func4 rfl rfl rfl [(0, _)] rfl ?_
 have hS := St.start w
 refine gc_seq fun K1 hK1 => gc_region (Zp rfl (gl_nil (hK1 _ _ (gc_seq fun K2 hK2 => gc_region (Zp rfl (gl_callf rfl rfl rfl rfl Tryz.func6 rfl rfl rfl (wide_calls A _ c l _ (h1.old hS) rfl hb) ?_))))))
 rintro _ w11 ⟨AW, cW, rfl, hcW, h11⟩
 refine ⟨_, rfl, ?_⟩
 have hS := hS.more h11
 refine Zp rfl (gl_nil (hK2 _ _ (gc_seq fun K3 hK3 => gc_region (Zp rfl ?_))))
 have hW : RdE w11 All uB AW l := rdE_of (Rd.pre (ds := mk5.map uB) (n := l.length + 5) (m := l.length) (by rw [← List.map_append]; exact hS.rd (i := 0) rfl) (by simp) (by omega)) rfl
 refine gl_callf rfl rfl rfl rfl Tryz.func7 rfl rfl rfl (decodeNet_calls AW _ cW l _ hW rfl (by omega) (by omega) (hU.old hS)) ?_
 rintro _ w14 hR
 obtain ⟨AL, cL, AN, cN, Ls, K, rfl, h14, hNM⟩ := dnR_one hR
 rw [← htp] at hNM ⊢
 refine ⟨_, rfl, ?_⟩
 have hS := hS.more h14
 clear hR
 refine Zp rfl (Zp rfl (Zp rfl (Zp rfl (gl_alloc el31 hS rfl rfl rfl rfl fun g4 w4 hS => ?_))))
 refine gl_storeM 2 hS el31 rfl rfl rfl rfl rfl rfl rfl rfl rfl fun w_50 hS => ?_
 refine Zp rfl (Zp rfl (gl_nil (hK3 _ _ (gc_seq fun K4 hK4 => gc_region (Zp rfl (gl_callf rfl rfl rfl rfl Tryz.func8 rfl rfl rfl (rDecodeNet_calls A _ c l _ (h1.old hS) rfl hc (by omega)) ?_))))))
 rintro _ w20 hR
 obtain ⟨AL2, cL2, AN2, cN2, Ls2, K2, rfl, h20, hNU⟩ := drR2_one hR
 rw [← htp] at hNU ⊢
 refine ⟨_, rfl, ?_⟩
 have hS := hS.more h20
 clear hR
 refine Zp rfl (Zp rfl (Zp rfl (Zp rfl (gl_alloc el37 hS rfl rfl rfl rfl fun g7 w7 hS => ?_))))
 refine gl_storeM 4 hS el37 rfl rfl rfl rfl rfl rfl rfl rfl rfl fun w_51 hS => ?_
 refine Zp rfl (Zp rfl (gl_nil (hK4 _ _ (gc_seq fun K5 hK5 => gc_anyS hS (by kernel_rfl) rfl fun nq4 hK => ?_))))
 have hS := hS.dr nq4
 refine Yp 0 rfl (by kernel_rfl) (fun _ _ _ _ h => h) hK ?_
 refine Yp 2 rfl (by kernel_rfl) (fun _ _ _ _ h => h) hK ?_
 refine ga_one 1 (by kernel_rfl) rfl ?_
 refine gl_callf rfl rfl rfl rfl Tryz.func9 rfl rfl rfl (num8_calls _ _) ?_
 rintro _ _ ⟨rfl, n25, rfl⟩
 refine ⟨_, rfl, ?_⟩
 have hS := hS.dr n25
 refine gl_nil (ga_next (hS.pre 5) fun hK => ?_)
 refine Yp 3 rfl (by kernel_rfl) (fun _ _ _ _ h => h) hK ?_
 refine ga_spell 27 (v := .bool true) rfl (by simp) ?_
 refine Yp 4 rfl (by kernel_rfl) (fun _ _ _ _ h => h) hK ?_
 refine ga_take_at 5 rfl rfl rfl rfl rfl rfl rfl (by kernel_rfl) (fun _ _ _ _ h => h) hK (fun w1 hS => op_pure hT rfl) ?_
 refine ga_take_at 6 rfl rfl rfl rfl rfl rfl rfl (by kernel_rfl) (fun _ _ _ _ h => h) hK (fun w1 hS => op_pure hT rfl) ?_
 refine ga_take_at 7 rfl rfl rfl rfl rfl rfl rfl (by kernel_rfl) (fun _ _ _ _ h => h) hK (fun w1 hS => op_pure hT rfl) ?_
 refine ga_spell 31 (v := .bool true) rfl (by simp) ?_
 refine Yp 8 rfl (by kernel_rfl) (fun _ _ _ _ h => h) hK ?_
 refine Yp 9 rfl (by kernel_rfl) (fun _ _ _ _ h => h) hK ?_
 refine ga_take_at 10 rfl rfl rfl rfl rfl rfl rfl (by kernel_rfl) (fun _ _ _ _ h => h) hK (fun w1 hS => op_loadG 2 Tryz.underlying31 rfl el31 hS rfl rfl rfl rfl rfl) ?_
 refine ga_take_at 12 rfl rfl rfl rfl rfl rfl rfl (by kernel_rfl) (fun _ _ _ _ h => h) hK (fun w1 hS => op_loadG 4 Tryz.underlying37 rfl el37 hS rfl rfl rfl rfl rfl) ?_
 refine ga_one 11 (by kernel_rfl) rfl ?_
 refine Zu rfl (gl_callf rfl rfl rfl rfl Tryz.func11 rfl rfl rfl (ofNet_calls AL AN cL cN Ls tp.1 _ (NtM.keepC hS (i := 1) rfl hNM)) ?_)
 rintro _ w35 ⟨AL3, AN3, cL3, cN3, Ls3, K3, rfl, h35, hU35⟩
 refine ⟨_, rfl, ?_⟩
 have hS := hS.more h35
 refine gl_nil (ga_next (hS.pre 5) fun hK => ?_)
 refine ga_one 13 (by kernel_rfl) rfl ?_
 refine Zu rfl (gl_callf rfl rfl rfl rfl Tryz.func10 rfl rfl rfl (sameNet_calls AL3 AN3 AL2 AN2 cL3 cN3 cL2 cN2 Ls3 Ls2 tp.1 _ (NtU.keepC hS (i := 5) rfl hU35) (NtU.keepC hS (i := 3) rfl hNU) hNM.nL hNM.nN hNM.wt) ?_)
 rintro _ w37 ⟨rfl, hb37⟩
 refine ⟨_, rfl, ?_⟩
 have hS := hS.grown hb37
 refine gl_nil (ga_next (hS.pre 5) fun hK => ?_)
 refine Yp 14 rfl (by kernel_rfl) (fun _ _ _ _ h => h) hK ?_
 refine Yp 15 rfl (by kernel_rfl) (fun _ _ _ _ h => h) hK ?_
 refine ga_take_at 16 rfl rfl rfl rfl rfl rfl rfl (by kernel_rfl) (fun _ _ _ _ h => h) hK (fun w1 hS => op_pure hT rfl) ?_
 refine ga_take_at 17 rfl rfl rfl rfl rfl rfl rfl (by kernel_rfl) (fun _ _ _ _ h => h) hK (fun w1 hS => op_pure hT rfl) ?_
 refine ga_one 18 (by kernel_rfl) rfl ?_
 refine Zu rfl (gl_callf rfl rfl rfl rfl Tryz.func12 rfl rfl rfl (kept_calls AW A _ cW _ c l _ (rdE_of (hS.rd (i := 0) rfl) (by simp [mk5])) rfl hcW (h1.old hS) rfl hb) ?_)
 rintro _ w42 ⟨rfl, hb42⟩
 refine ⟨_, rfl, ?_⟩
 have hS := hS.grown hb42
 refine gl_nil (ga_next (hS.pre 5) fun hK => ?_)
 refine Yp 19 rfl (by kernel_rfl) (fun _ _ _ _ h => h) hK ?_
 refine Yp 20 rfl (by kernel_rfl) (fun _ _ _ _ h => h) hK ?_
 refine ga_done (by kernel_rfl) ?_
 refine hK5 _ _ (gc_ret ?_)
 simp only [XR]
 refine gk_ret1 rfl rfl ?_
 exact ⟨rfl, hS.below⟩
theorem CodeNetBytes_calls (A : Option Addr) (c : Nat) (l : List UInt8) (w : World) {ok : Nat → Prop} (h1 : RdE w ok uB A l) (hc : l.length ≤ c) (hb : l.length ≤ 140737488351232) (hU : Tabs w) :
 Calls Tryz.prog 3 ⟨[.slice A l.length c]⟩ w fun e w' => e = .returned (.bool true) ∧ Below w.heap.size w w' := by
 refine gc_enter (N := 8) Tryz.func3 rfl rfl rfl [(0, _)] rfl ?_
 have hS := St.start w
 refine gc_seq fun K1 hK1 => gc_region (Zp rfl (gl_nil (hK1 _ _ (gc_seq fun K2 hK2 => gc_region (Zp rfl (gl_callf rfl rfl rfl rfl Tryz.func4 rfl rfl rfl (reads_calls A _ c l _ (h1.old hS) rfl hc hb (hU.old hS)) ?_))))))
 rintro _ w4 ⟨rfl, hb4⟩
 refine ⟨_, rfl, ?_⟩
 have hS := hS.grown hb4
 refine Zp rfl (Zu rfl (gl_callf rfl rfl rfl rfl Tryz.func5 rfl rfl rfl (started8_calls _) ?_))
 rintro _ w6 ⟨rfl, hb6⟩
 refine ⟨_, rfl, ?_⟩
 have hS := hS.grown hb6
 refine Zp rfl (Zp rfl (gl_nil (hK2 _ _ (gc_ret (gk_ret1 rfl rfl ?_)))))
 exact ⟨rfl, hS.below⟩
end Go.Proofs.YtnomlloaahoceaaGreatDoor
