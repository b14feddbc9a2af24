/- Contracts of functions that CodeNetBytes reaches, and words to say them. No condition. -/
import Derived.Test.YtnomlloaahoceaaGreatDoorZ22
import Derived.Test.YtnomlloaahoceaaGreatDoorZ03
/- Contracts of package code: names, read. No condition. -/
namespace Go.Proofs.YtnomlloaahoceaaGreatDoor
open Go.RowKit
set_option linter.unusedVariables false
set_option linter.unusedSimpArgs false
@[reducible] def tV (s : ByteArray) : Value := .string s
theorem sizeV_le (s : Sh) : 0 ≤ (sizeV s).1 ∧ (sizeV s).1 ≤ 256 := by
 unfold sizeV
 split
 ·exact ⟨by decide, by decide⟩
 rename_i h
 have := sz_good h
 exact ⟨by dsimp only; omega, by dsimp only; omega⟩
theorem take_mem {t : ByteArray} {N : List ByteArray} {j : Nat} {u : ByteArray} (h : N[j]? = some u) : t ∈ N.take (j + 1) ↔ (t ∈ N.take j ∨ t = u) := by
 rw [List.take_add_one, h]
 simp
set_option maxHeartbeats 4000000 in
set_option maxRecDepth 100000 in
theorem codeNames_calls {B : Nat} {w0 : World} (g : Nat) (A As : Option Addr) (c cs : Nat) (l : List UInt8) (at_ sum : Int) (s0 : Sh) (ls : Value) (Ss : List Sh) (xs : List Lx) (L : List It) (w : World)
 (hS0 : St B w0 w (.blk g 64 (nrX A l.length c at_ s0 ls (.slice none 0 0) (.slice As Ss.length cs) sum) :: .row As cs 27 3 Ss.length (Ss.map shC).flatten :: L))
 {ok : Nat → Prop} (hr : Rdb B w0 ok A l) (hc : l.length ≤ c) (hb : l.length ≤ 1048576) (hat : 0 ≤ at_ ∧ at_ ≤ l.length) (hSs : Ss.length = xs.length + 1) (hsok : ∀ s ∈ Ss, s.ok) (hxs : xs.length ≤ 64) (hU : ∀ {w1 : World} {L1 : List It}, St B w0 w1 L1 → Tabs w1) :
 Calls Tryz.prog 25 ⟨[.pointer (some ⟨g, 0, none⟩)]⟩ w fun en w' => (∃ x y X, dnN l s0 xs (sizeV (Ss.getD xs.length zSh)).1 at_ = .error (x, y) ∧ en = .panicked (pn x y) ∧ St B w0 w' (X :: L)) ∨
  (∃ N a AN cN, dnN l s0 xs (sizeV (Ss.getD xs.length zSh)).1 at_ = dnTail l ⟨s0, xs, N⟩ a ∧ en = .returned (.tuple #[]) ∧ (0 ≤ a ∧ a ≤ l.length) ∧ (N.length ≤ 256 ∧ ∀ t ∈ N, t.size ≤ 1048576) ∧
    St B w0 w' (.blk g 64 (nrX A l.length c a s0 ls (.slice AN N.length cN) (.slice As Ss.length cs) sum) :: .row As cs 27 3 Ss.length (Ss.map shC).flatten :: .row AN cN 9 1 N.length (N.map tV) :: L)) := by
 obtain ⟨ad, rfl⟩ : ∃ ad, As = some ad := by
  obtain ⟨ad, h, _⟩ := (hS0.rd (i := 1) rfl).2 (by omega)
  exact ⟨ad, h⟩
 obtain ⟨s, hs⟩ : ∃ s, Ss[xs.length]? = some s := ⟨_, List.getElem?_eq_getElem (by omega)⟩
 have hsg : Ss.getD xs.length zSh = s := by rw [List.getD_eq_getElem?_getD, hs]; rfl
 have hso := hsok s (List.mem_of_getElem? hs)
 rw [hsg]
 have hsl := sizeV_le s
 refine gc_enter (N := 122) Tryz.func25 rfl rfl rfl [(0, _)] rfl ?_
 have hS := St.start w
 have hS := hS0
 refine gc_seq fun K1 hK1 => gc_region (Zp rfl (Zp rfl (Zf 0 Tryz.underlying64 rfl el61 (Zf 1 Tryz.underlying61 rfl el3 (Zb 0 hS rfl (Zp rfl (gl_nil (hK1 _ _ (gc_seq fun K2 hK2 => gc_region (Zp rfl (Zp rfl (Zf 0 Tryz.underlying64 rfl el61 (gl_callP rfl rfl rfl rfl Tryz.func20 rfl rfl rfl (cUint_calls g _ A l.length c l at_ _ _ _ hS hr rfl hb) ?_)))))))))))))
 rintro _ w20 (⟨x, y, hx, rfl, hS⟩ | ⟨n9, a1, hx, rfl, hS⟩)
 ·refine .inr ⟨_, rfl, ?_⟩
  simp only [x_then_panic, x_block_panic]
  refine gk_panic ?_
  exact .inl ⟨_, _, _, dnN_e hx, rfl, hS.erase 1⟩
 refine .inl ⟨_, rfl, ?_⟩
 have hu1 := rU_ok hx
 obtain ⟨n, rfl⟩ : ∃ n : Nat, n9 = n := ⟨n9.toNat, by omega⟩
 refine Zp rfl (gl_nil (hK2 _ _ (gc_seq fun K3 hK3 => gc_anyS hS (by kernel_rfl) rfl fun nq2 hK => ?_)))
 have hS := hS.dr nq2
 refine Yp 0 rfl (by kernel_rfl) (fun _ _ _ _ h => h) hK ?_
 refine Yp 1 rfl (by kernel_rfl) (fun _ _ _ _ h => h) hK ?_
 refine Yf 2 7 Tryz.underlying64 rfl el62 (by kernel_rfl) (fun _ _ _ _ h => h) hK ?_
 refine Yb 3 0 rfl (by kernel_rfl) (fun _ _ _ _ h => h) hK ?_
 refine Yp 4 rfl (by kernel_rfl) (fun _ _ _ _ h => h) hK ?_
 refine Yp 5 rfl (by kernel_rfl) (fun _ _ _ _ h => h) hK ?_
 refine Yf 6 7 Tryz.underlying64 rfl el62 (by kernel_rfl) (fun _ _ _ _ h => h) hK ?_
 refine Yb 7 0 rfl (by kernel_rfl) (fun _ _ _ _ h => h) hK ?_
 refine Yp 8 rfl (by kernel_rfl) (fun _ _ _ _ h => h) hK ?_
 refine ga_take 9 rfl rfl rfl rfl (by kernel_rfl) (fun _ _ _ _ h => h) hK (fun w1 hS => op_fit (n := (Ss.length : Int) - 1) hT rfl (by omega)) ?_
 refine ga_spell 31 (v := .int .i64 ((xs.length : Nat) : Int)) rfl (congrArg (Value.int .i64) (by omega)) ?_
 refine ga_take 10 rfl rfl rfl rfl (by kernel_rfl) (fun _ _ _ _ h => h) hK (fun w1 hS => op_indexAddr hT rfl rfl el27.cellsOf.1 el27.cellsOf.2 rfl rfl (by omega) (by omega) rfl) ?_
 refine ga_spell 32 (v := .pointer (some (ad.add (xs.length * 3)))) rfl (by rw [Int.toNat_natCast]) ?_
 refine ga_take 11 rfl rfl rfl rfl (by kernel_rfl) (fun _ _ _ _ h => h) hK (fun w1 hS => op_loadS Tryz.underlying27 rfl el27 rfl rfl (exSh (l := Ss) (i := xs.length) hS rfl hs) rfl) ?_
 refine ga_one 12 (by kernel_rfl) rfl ?_
 refine gl_callf rfl rfl rfl rfl Tryz.func21 rfl rfl rfl (mSize_calls s _ hso) ?_
 rintro _ w34 ⟨rfl, hb34⟩
 refine ⟨_, rfl, ?_⟩
 have hS := hS.grown hb34
 refine gl_nil (ga_next hS fun hK => ?_)
 refine Yp 13 rfl (by kernel_rfl) (fun _ _ _ _ h => h) hK ?_
 refine Yp 14 rfl (by kernel_rfl) (fun _ _ _ _ h => h) hK ?_
 refine Yp 15 rfl (by kernel_rfl) (fun _ _ _ _ h => h) hK ?_
 refine Yp 16 rfl (by kernel_rfl) (fun _ _ _ _ h => h) hK ?_
 refine Yp 17 rfl (by kernel_rfl) (fun _ _ _ _ h => h) hK ?_
 refine ga_done (by kernel_rfl) ?_
 refine hK3 _ _ (gc_cut (fun a' w' => Fr 122 a' [(0, .pointer (some ⟨g, 0, none⟩)), (3, .int .i64 (n : Nat))] ∧ n ≤ 256 ∧ dnN l s0 xs (sizeV s).1 at_ = dnNs l s0 xs n [] a1 ∧ St B w0 w' (.blk g 64 (nrX A l.length c (a1) s0 ls (.slice none 0 0) (.slice (some ad) Ss.length cs) sum) :: .row (some ad) cs 27 3 Ss.length (Ss.map shC).flatten :: L)) ?_ ?_)
 ·refine gc_seq fun K4 hK4 => gc_region (Zp rfl (Zp rfl (Zp rfl (gl_split (t := 39) rfl (fun c39 => ?_) (fun c39 => ?_)))))
  ·simp only [NN, reduceCtorEq] at c39
   refine Zu rfl (Zp rfl (Zu rfl (Zp rfl (Zu rfl (Zp rfl (Zp rfl (gl_nil (hK4 _ _ (gc_cond rfl rfl (fun c43 => ?_) (fun c43 => ?_))))))))))
   ·simp only [NN, reduceCtorEq] at c43
    refine gc_region (Zp rfl (Zp rfl (Zf 0 Tryz.underlying64 rfl el61 (Zp rfl (gl_callP rfl rfl rfl rfl Tryz.func23 rfl rfl rfl (fail_calls _ 63 at_ _) ?_)))))
    rintro _ w48 ⟨rfl, hb48⟩
    refine .inr ⟨_, rfl, ?_⟩
    simp only [x_then_panic, x_block_panic]
    refine gk_panic ?_; exact .inl ⟨63, at_, _, dnN_b hx ⟨by omega, by omega⟩, rfl, (hS.erase 1).eqv hb48⟩
   simp only [NN, reduceCtorEq] at c43
   refine gc_skip ?_
   intro a' ha
   exact ⟨ha.sub ⟨rfl, rfl, trivial⟩, by omega, dnN_0 hx (by omega), hS⟩
  simp only [NN, reduceCtorEq] at c39
  refine Zs rfl (Zs rfl (Zs rfl (Zp rfl (gl_nil (hK4 _ _ (gc_cond_f rfl (gc_skip ?_)))))))
  intro a' ha
  exact ⟨ha.sub ⟨rfl, rfl, trivial⟩, by omega, dnN_0 hx (by omega), hS⟩
 rintro a' w1 ⟨hF, hn256, hD, hS⟩
 refine gc_of hF ?_
 clear hF
 refine gc_seq fun K5 hK5 => gc_region (Zp rfl (Zp rfl (gl_nil (hK5 _ _ (gc_block ?_)))))
 have hS : St B w0 _ (.blk g 64 (nrX A l.length c (a1) s0 ls (.slice none 0 0) (.slice (some ad) Ss.length cs) sum) :: .row (some ad) cs 27 3 Ss.length (Ss.map shC).flatten :: .row none 0 9 1 0 [] :: L) := (hS.nil 9 1).moveIn 2
 refine gc_loop (fun kk a' w' => ∃ (i : Nat) (N : List ByteArray) (a : Int) (AN : Option Addr) (cN : Nat), Fr 122 a' [(0, .pointer (some ⟨g, 0, none⟩)), (49, .int .i64 (n : Nat)), (50, .int .i64 (i : Nat))] ∧ i ≤ n ∧ kk = n + 1 - i ∧ N.length = i ∧ (∀ t ∈ N, t.size ≤ 1048576) ∧ (0 ≤ a ∧ a ≤ l.length) ∧
  dnN l s0 xs (sizeV s).1 at_ = dnNs l s0 xs (n - i) N a ∧ St B w0 w' (.blk g 64 (nrX A l.length c (a) s0 ls (.slice AN i cN) (.slice (some ad) Ss.length cs) sum) :: .row (some ad) cs 27 3 Ss.length (Ss.map shC).flatten :: .row AN cN 9 1 i (N.map tV) :: L)) (n + 1) ?_ ?_ ?_
 ·intro a' ha; exact ⟨0, [], a1, none, 0, ha.sub ⟨rfl, rfl, rfl, trivial⟩, by omega, by omega, rfl, (fun t h => by cases h), by omega, hD, hS⟩
 ·rintro a' w' ⟨i, _, _, _, _, _, h1, h2, _⟩; omega
 clear hS hD
 rintro kk a' w1 ⟨i, N, a, AN, cN, hF, hi, hkk, hNl, hNs, hab, hD, hS⟩
 refine gc_of hF ?_
 clear hF
 refine gc_seq fun K6 hK6 => gc_region (Zp rfl (gl_nil (hK6 _ _ (gc_seq fun K7 hK7 => gc_cond rfl rfl (fun c51 => ?_) (fun c51 => ?_)))))
 ·simp only [NN, reduceCtorEq] at c51
  refine gc_skip (hK7 _ _ (gc_seq fun K8 hK8 => gc_block (gc_seq fun K9 hK9 => gc_region (Zp rfl (Zp rfl (Zf 0 Tryz.underlying64 rfl el61 (Zf 1 Tryz.underlying61 rfl el3 (Zb 0 hS rfl (Zp rfl (gl_nil (hK9 _ _ (gc_seq fun K10 hK10 => gc_anyS hS (by kernel_rfl) rfl fun nq8 hK => ?_))))))))))))
  have hS := hS.dr nq8
  refine Yp 0 rfl (by kernel_rfl) (fun _ _ _ _ h => h) hK ?_
  refine Yp 1 rfl (by kernel_rfl) (fun _ _ _ _ h => h) hK ?_
  refine Yf 2 0 Tryz.underlying64 rfl el61 (by kernel_rfl) (fun _ _ _ _ h => h) hK ?_
  refine Yf 3 0 Tryz.underlying61 rfl el22 (by kernel_rfl) (fun _ _ _ _ h => h) hK ?_
  refine Yb 4 0 rfl (by kernel_rfl) (fun _ _ _ _ h => h) hK ?_
  refine Yp 5 rfl (by kernel_rfl) (fun _ _ _ _ h => h) hK ?_
  refine Yp 6 rfl (by kernel_rfl) (fun _ _ _ _ h => h) hK ?_
  refine Yf 7 0 Tryz.underlying64 rfl el61 (by kernel_rfl) (fun _ _ _ _ h => h) hK ?_
  refine Yf 8 1 Tryz.underlying61 rfl el3 (by kernel_rfl) (fun _ _ _ _ h => h) hK ?_
  refine Yb 9 0 rfl (by kernel_rfl) (fun _ _ _ _ h => h) hK ?_
  refine ga_one 10 (by kernel_rfl) rfl ?_
  refine gl_callf rfl rfl rfl rfl Tryz.func53 rfl rfl rfl (ReadText_calls A c l a 128 _ (hr hS) (by omega) hc (hU hS)) ?_
  rintro _ w68 ⟨rfl, hb68⟩
  refine ⟨_, rfl, ?_⟩
  have hS := hS.grown hb68
  refine gl_nil (ga_next hS fun hK => ?_)
  refine Yp 11 rfl (by kernel_rfl) (fun _ _ _ _ h => h) hK ?_
  refine Yp 12 rfl (by kernel_rfl) (fun _ _ _ _ h => h) hK ?_
  refine Yp 13 rfl (by kernel_rfl) (fun _ _ _ _ h => h) hK ?_
  refine Yp 14 rfl (by kernel_rfl) (fun _ _ _ _ h => h) hK ?_
  refine Yp 15 rfl (by kernel_rfl) (fun _ _ _ _ h => h) hK ?_
  refine Yp 16 rfl (by kernel_rfl) (fun _ _ _ _ h => h) hK ?_
  refine Yp 17 rfl (by kernel_rfl) (fun _ _ _ _ h => h) hK ?_
  refine ga_done (by kernel_rfl) ?_
  refine hK10 _ _ (gc_seq fun K11 hK11 => gc_region (Zp rfl (Zp rfl (Zf 0 Tryz.underlying64 rfl el61 (Zp rfl (Zp rfl (gl_callP rfl rfl rfl rfl Tryz.func22 rfl rfl rfl (check_calls8 _ (readTextV l a 128).2.2 a _) ?_)))))))
  rintro _ w77 (⟨hx2, rfl, hb77⟩ | ⟨hx2, rfl, hb77⟩)
  ·refine .inr ⟨_, rfl, ?_⟩
   simp only [x_then_panic, x_block_panic]
   refine gk_panic ?_
   exact .inl ⟨_, _, _, hD.trans (dnNs_e (k := n - (i + 1)) (by omega) (by unfold rT; rw [if_neg hx2])), rfl, ((hS.erase 1).erase 1).eqv hb77⟩
  refine .inl ⟨_, rfl, ?_⟩
  have hS := hS.eqv hb77
  have hrt : rT l a = .ok ((readTextV l a 128).1, (readTextV l a 128).2.1) := by unfold rT; rw [if_pos hx2]
  have hto := rT_ok hrt hab
  generalize (readTextV l a 128).1 = tt at hrt hto ⊢
  generalize (readTextV l a 128).2.1 = b at hrt hto ⊢
  clear hx2
  refine gl_nil (hK11 _ _ (gc_seq fun K12 hK12 => gc_region (Zp rfl (Zp rfl (Zp rfl (Zf 0 Tryz.underlying64 rfl el61 (Zf 1 Tryz.underlying61 rfl el3 (gl_store 0 hS el3.cellsOf.1 el3.cellsOf.2 rfl rfl rfl rfl rfl rfl rfl rfl fun w_225 hS => ?_))))))))
  refine gl_nil (hK12 _ _ (gc_seq fun K13 hK13 => gc_region (Zp rfl (gl_callf rfl rfl rfl rfl Tryz.func54 rfl rfl rfl (name_calls tt (by omega) _ (hU hS)) ?_))))
  rintro _ w84 ⟨rfl, hb84⟩
  refine ⟨_, rfl, ?_⟩
  have hS := hS.grown hb84
  refine Zp rfl (Zp rfl (gl_nil (hK13 _ _ (gc_seq fun K14 hK14 => gc_seq fun K15 hK15 => gc_region (Zp rfl (Zp rfl (Zf 2 Tryz.underlying64 rfl el31 (Zf 6 Tryz.underlying31 rfl el29 (Zb 0 hS rfl (Zp rfl (Zp rfl (gl_nil (hK15 _ _ (gc_block (gc_loop (fun kk a' w' => ∃ (j : Nat) (bd : Bool), Fr 122 a' [(0, .pointer (some ⟨g, 0, none⟩)), (2, .int .i64 a), (6, .string tt), (9, .bool bd), (49, .int .i64 (n : Nat)), (50, .int .i64 (i : Nat)), (90, .slice AN i cN), (91, .int .i64 (i : Nat)), (92, .int .i64 (j : Nat))] ∧ j ≤ i ∧ kk = i + 1 - j ∧ (bd = true ↔ (nameV tt = false ∨ tt ∈ N.take j)) ∧ St B w0 w' (.blk g 64 (nrX A l.length c (b) s0 ls (.slice AN i cN) (.slice (some ad) Ss.length cs) sum) :: .row (some ad) cs 27 3 Ss.length (Ss.map shC).flatten :: .row AN cN 9 1 i (N.map tV) :: L)) (i + 1) ?_ ?_ ?_)))))))))))))))
  ·intro a' ha; exact ⟨0, _, ha.sub ⟨rfl, rfl, rfl, rfl, rfl, rfl, rfl, rfl, rfl, trivial⟩, by omega, by omega, by simp, hS⟩
  ·rintro a' w' ⟨j, _, _, h1, h2, _⟩; omega
  clear hS
  rintro kk2 a' w1 ⟨j, bd, hF, hj, hkj, hbd, hS⟩
  refine gc_of hF ?_
  clear hF
  refine gc_seq fun K16 hK16 => gc_region (Zp rfl (gl_nil (hK16 _ _ (gc_seq fun K17 hK17 => gc_cond rfl rfl (fun c93 => ?_) (fun c93 => ?_)))))
  ·simp only [NN, reduceCtorEq] at c93
   refine gc_skip (hK17 _ _ (gc_seq fun K18 hK18 => gc_block (gc_seq fun K19 hK19 => gc_region ?_)))
   have hjl : j < i := by omega
   obtain ⟨u, hu⟩ : ∃ u, N[j]? = some u := ⟨_, List.getElem?_eq_getElem (by omega)⟩
   obtain ⟨adN, hA, hcl⟩ := (rdE_of (l := N) (enc := tV) (hS.rd (i := 2) rfl) hNl).at ⟨#[]⟩ (i := (j : Int)) (by omega) (by omega)
   have hug : N.getD ((j : Int)).toNat ⟨#[]⟩ = u := by rw [Int.toNat_natCast, List.getD_eq_getElem?_getD, hu]; rfl
   rw [hug] at hcl
   refine gl_op rfl rfl rfl (op_indexAddr hT rfl rfl el9.cellsOf.1 el9.cellsOf.2 rfl rfl (by omega) (by omega) hA) ?_
   refine gl_op rfl rfl rfl (op_load hT rfl rfl rfl rfl hcl) ?_
   refine Zp rfl (gl_nil (hK19 _ _ (gc_region (Zp rfl (Zp rfl (gl_split (t := 97) rfl (fun c97 => ?_) (fun c97 => ?_)))))))
   ·refine Zs rfl (Zs rfl (Zs rfl (Zp rfl (Zp rfl (gl_nil (hK18 _ _ (gc_region (Zi rfl (by omega) ?_))))))))
    refine Zp rfl (gl_nil ?_)
    intro a' ha
    refine ⟨j + 1, _, ha.sub ⟨rfl, rfl, rfl, rfl, rfl, rfl, rfl, rfl, rfl, trivial⟩, by omega, by omega, ?_, hS⟩
    rw [take_mem hu]
    rw [c97] at hbd; exact ⟨fun _ => (hbd.1 rfl).imp id .inl, fun _ => rfl⟩
   refine Zu rfl (Zp rfl (Zu rfl (Zp rfl (Zu rfl (Zp rfl (Zp rfl (Zp rfl (gl_nil (hK18 _ _ (gc_region (Zi rfl (by omega) ?_)))))))))))
   refine Zp rfl (gl_nil ?_)
   intro a' ha
   refine ⟨j + 1, _, ha.sub ⟨rfl, rfl, rfl, rfl, rfl, rfl, rfl, rfl, rfl, trivial⟩, by omega, by omega, ?_, hS⟩
   rw [take_mem hu]
   rw [decide_eq_true_eq]; exact ⟨fun h => .inr (.inr h), fun h => by
    rcases h with h | h | h
    ·exact absurd (hbd.2 (.inl h)) (by rw [c97]; decide)
    ·exact absurd (hbd.2 (.inr h)) (by rw [c97]; decide)
    exact h⟩
  simp only [NN, reduceCtorEq] at c93
  have hji : N.take j = N := List.take_of_length_le (by omega)
  rw [hji] at hbd
  refine gc_exit ?_
  refine hK14 _ _ (gc_seq fun K20 hK20 => gc_seq fun K21 hK21 => gc_region (Zp rfl (gl_nil (hK21 _ _ (gc_cond rfl rfl (fun c103 => ?_) (fun c103 => ?_))))))
  ·refine gc_region (Zp rfl (Zp rfl (Zf 0 Tryz.underlying64 rfl el61 (Zp rfl (gl_callP rfl rfl rfl rfl Tryz.func23 rfl rfl rfl (fail_calls _ 67 a _) ?_)))))
   rintro _ w108 ⟨rfl, hb108⟩
   refine .inr ⟨_, rfl, ?_⟩
   simp only [x_then_panic, x_block_panic]
   refine gk_panic ?_; exact .inl ⟨67, a, _, hD.trans (dnNs_b (k := n - (i + 1)) (by omega) hrt (hbd.1 c103)), rfl, ((hS.erase 1).erase 1).eqv hb108⟩
  have hD2 := hD.trans (dnNs_s (k := n - (i + 1)) (by omega) hrt (fun h => by rw [hbd.2 h] at c103; cases c103))
  refine gc_skip (hK20 _ _ (gc_region (Zp rfl (Zp rfl (Zp rfl (Zf 2 Tryz.underlying64 rfl el31 (Zf 6 Tryz.underlying31 rfl el29 (Zb 0 hS rfl (Zp rfl (gl_lit hT hS el9 rfl rfl rfl rfl rfl rfl rfl rfl rfl fun g116 w116 hS => ?_))))))))))
  have hS := hS.moveIn 3
  refine gl_append 2 hT hS el9 (hS.rd (i := 3) rfl) (rfl) rfl rfl rfl rfl rfl rfl rfl rfl (by first | omega | (simp; omega)) (by first | omega | (simp; omega)) fun A117 c117 w117 hS => ?_
  have hS := hS.erase 3
  refine Zp rfl (Zf 2 Tryz.underlying64 rfl el31 (Zf 6 Tryz.underlying31 rfl el29 (gl_store 0 hS el29.cellsOf.1 el29.cellsOf.2 rfl rfl rfl rfl rfl rfl rfl rfl fun w_233 hS => ?_)))
  refine gl_nil (hK8 _ _ (gc_region (Zi rfl (by omega) ?_)))
  refine Zp rfl (gl_nil ?_)
  intro a' ha
  refine ⟨i + 1, N ++ [tt], b, A117, c117, ha.sub ⟨rfl, rfl, rfl, trivial⟩, by omega, by omega, by rw [List.length_append, hNl]; rfl, fun t ht => ?_, by omega, hD2, ?_⟩
  ·rcases List.mem_append.1 ht with ht | ht
   ·exact hNs t ht
   rw [List.mem_singleton.1 ht]; omega
  rw [List.map_append]
  exact hS
 simp only [NN, reduceCtorEq] at c51
 refine gc_exit ?_
 simp only [x_then_exit, x_block_exit, ↓reduceIte]
 refine gk_end0 rfl ?_
 have hin : i = n := by omega
 subst hin
 rw [Nat.sub_self] at hD
 subst hNl
 exact .inr ⟨N, a, AN, cN, hD, rfl, hab, ⟨hn256, hNs⟩, hS⟩
end Go.Proofs.YtnomlloaahoceaaGreatDoor
