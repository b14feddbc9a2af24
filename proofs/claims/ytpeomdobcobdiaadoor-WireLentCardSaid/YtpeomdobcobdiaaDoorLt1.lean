/- The contracts of Book.Take and Book.Whole. No condition. -/
import Derived.Test.YtpeomdobcobdiaaDoorLibU
import Derived.Test.YtpeomdobcobdiaaDoorLibN
import Derived.Test.YtpeomdobcobdiaaDoorTy2
import Derived.Test.YtpeomdobcobdiaaDoorWL
namespace Go.Proofs.YtpeomdobcobdiaaDoor
open Go.RowKit
set_option linter.unusedVariables false
set_option linter.unusedSimpArgs false
@[reducible] def slV (x : Sl) : Value := .slice x.1 x.2.1 x.2.2
/-- The mark of the next. -/
def mkU (m : Nat) : UInt8 := UInt8.ofNat (((m : Int) / 3 % 200 + 20) % 256).toNat
theorem St.permB {B : Nat} {w0 w : World} {L L' : List It} (h : St B w0 w L) (hp : L.Perm L') : St B w0 w L' :=
  ⟨h.1, fun it hi => h.2.1 it (hp.mem_iff.2 hi), hp.pairwise h.2.2 fun {x y} hxy b hb hb2 => hxy b hb2 hb⟩
theorem mark_set {xs : List Value} {m : Value} {n i : Nat} (hl : xs.length = n) (hi : i < n) : (List.replicate i m ++ xs.drop i).set i m = List.replicate (i + 1) m ++ xs.drop (i + 1) := by
  apply List.ext_getElem?
  intro q
  rw [List.getElem?_set]
  by_cases hq : i = q
  · subst hq
    rw [if_pos rfl, if_pos (by simp; omega), List.getElem?_append_left (by simp), List.getElem?_replicate, if_pos (by omega)]
  · rw [if_neg hq]
    rcases Nat.lt_or_ge q i with h | h
    · rw [List.getElem?_append_left (by simp; omega), List.getElem?_append_left (by simp; omega), List.getElem?_replicate, List.getElem?_replicate, if_pos h, if_pos (by omega)]
    · rw [List.getElem?_append_right (by simp; omega), List.getElem?_append_right (by simp; omega), List.getElem?_drop, List.getElem?_drop, List.length_replicate, List.length_replicate]
      congr 1
      omega
set_option maxHeartbeats 8000000 in
set_option maxRecDepth 100000 in
theorem take_calls {B : Nat} {w0 : World} (gb : Nat) (bL bM : Sl) (S : List Sl) (M : List UInt8) (A : Option Addr) (c n : Nat) (xs : List Value) (F G : Nat → Prop) (wF wG w : World) (m : Nat) (mu : UInt8) (hmu : mu = mkU m)
    (hS0 : St B w0 w [.blk gb 81 [slV bL, slV bM], .row bL.1 bL.2.2 22 1 m (S.map slV), .row bM.1 bM.2.2 5 1 m (M.map uB), .row A c 5 1 n xs, .keep F wF, .keep G wG])
    (hbL : bL.2.1 = m) (hbM : bM.2.1 = m) (hm : m ≤ 1000) (hn : n ≤ 1000000) :
    Calls Tryd.prog 45 ⟨[.pointer (some ⟨gb, 0, none⟩), .slice A n c]⟩ w fun e w' => e = .returned (.tuple #[]) ∧ ∃ (bL' bM' : Sl) (Ax Ag : Option Addr) (cx cg : Nat) (G' : Nat → Prop), bL'.2.1 = m + 3 ∧ bM'.2.1 = m + 3 ∧
      St B w0 w' [.blk gb 81 [slV bL', slV bM'], .row bL'.1 bL'.2.2 22 1 (m + 3) ((S ++ [(A, n, c), (Ax, n + 1, cx), (Ag, n + 101, cg)]).map slV), .row bM'.1 bM'.2.2 5 1 (m + 3) ((M ++ [mu, mu, mu]).map uB), .keep F wF, .keep G' w'] ∧
      (∀ {A' : Option Addr} {n' : Nat} {cs : List Value}, Rd wG G A' n' 1 cs → Rd w' G' A' n' 1 cs) ∧ Rd w' G' A n 1 (List.replicate n (uB mu)) ∧ Rd w' G' Ax (n + 1) 1 (List.replicate (n + 1) (uB mu)) ∧ Rd w' G' Ag (n + 101) 1 (List.replicate (n + 101) (uB mu)) := by
  have hml := (hS0.cap (i := 1) rfl).2.2
  have hxl := (hS0.cap (i := 3) rfl).2.2
  refine gc_enter (N := 66) Tryd.func45 rfl rfl rfl [(0, _), (1, _)] rfl ?_
  have hS := St.start w
  have hS := hS0
  refine gc_seq fun K1 hK1 => ?_
  refine gc_region ?_
  refine gl_op rfl rfl rfl (op_pure hT rfl) ?_
  refine gl_op rfl rfl rfl (op_pure hT rfl) ?_
  refine gl_op rfl rfl rfl (op_fieldB 0 rfl Tryd.underlying81 rfl el36 rfl rfl) ?_
  refine gl_op rfl rfl rfl (op_loadB 0 hT hS rfl rfl rfl rfl rfl rfl) ?_
  refine gl_spell 11 (v := .slice bL.1 m bL.2.2) rfl (by rw [← hbL]) ?_
  refine gl_op rfl rfl rfl (op_pure hT rfl) ?_
  first | refine gl_op rfl rfl rfl (op_quo hT rfl (by omega) (by omega)) ?_ | refine gl_op rfl rfl rfl (op_pure hT rfl) ?_ | refine gl_op rfl rfl rfl (op_quoS rfl rfl rfl (by omega) (by omega)) ?_
  first | refine gl_op rfl rfl rfl (op_rem hT rfl (by omega)) ?_ | refine gl_op rfl rfl rfl (op_pure hT rfl) ?_ | refine gl_op rfl rfl rfl (op_remS rfl rfl rfl (by omega) (by omega)) ?_
  first | refine gl_fit hT rfl rfl rfl rfl (by omega) ?_ | refine gl_op rfl rfl rfl (op_pure hT rfl) ?_
  refine gl_op rfl rfl rfl (op_pure hT rfl) ?_
  refine gl_spell 16 (v := uB mu) rfl (by rw [hmu, u8_mod]; rfl) ?_
  refine gl_op rfl rfl rfl (op_pure hT rfl) ?_
  refine gl_nil ?_
  refine hK1 _ _ ?_
  clear hK1; try clear K1
  refine gc_seq fun K2 hK2 => ?_
  refine gc_seq fun K3 hK3 => ?_
  refine gc_region ?_
  refine gl_op rfl rfl rfl (op_pure hT rfl) ?_
  refine gl_nil ?_
  refine hK3 _ _ ?_
  clear hK3; try clear K3
  refine gc_block ?_
  have hS : St B w0 w [.blk gb 81 [slV bL, slV bM], .row bL.1 bL.2.2 22 1 m (S.map slV), .row bM.1 bM.2.2 5 1 m (M.map uB), .row A c 5 1 n xs, .keep F wF, .keep G wG] := hS
  refine gc_loop (fun kk a w' => ∃ (i : Nat), Fr 66 a [(0, .pointer (some ⟨gb, 0, none⟩)), (1, .slice A n c), (4, uB mu), (5, .int .i64 (i : Nat))] ∧ i ≤ n ∧ kk = n + 1 - i ∧
    St B w0 w' [.blk gb 81 [slV bL, slV bM], .row bL.1 bL.2.2 22 1 m (S.map slV), .row bM.1 bM.2.2 5 1 m (M.map uB), .row A c 5 1 n (List.replicate i (uB mu) ++ xs.drop i), .keep F wF, .keep G wG]) (n + 1) ?_ ?_ ?_
  · intro a ha; exact ⟨0, ha.sub ⟨rfl, rfl, rfl, rfl, trivial⟩, by omega, by omega, hS⟩
  · rintro a w' ⟨i, _, h1, h2, _⟩; omega
  rintro kk a w1 ⟨i, hF, hi, hk, hS⟩
  refine gc_of hF ?_
  clear hF
  refine gc_seq fun K4 hK4 => ?_
  refine gc_seq fun K5 hK5 => ?_
  refine gc_region ?_
  refine gl_op rfl rfl rfl (op_pure hT rfl) ?_
  refine gl_op rfl rfl rfl (op_pure hT rfl) ?_
  refine gl_op rfl rfl rfl (op_pure hT rfl) ?_
  refine gl_op rfl rfl rfl (op_pure hT rfl) ?_
  refine gl_nil ?_
  refine hK5 _ _ ?_
  clear hK5; try clear K5
  refine gc_cond rfl rfl (fun c20 => ?_) (fun c20 => ?_)
  · try simp only [decide_eq_true_eq, decide_eq_false_iff_not, Bool.not_eq_true', Bool.not_eq_false', Int.not_lt, Int.not_le, Nat.not_lt, Nat.not_le, Bool.true_eq, Bool.false_eq, reduceCtorEq] at c20
    refine gc_skip ?_
    refine hK4 _ _ ?_
    clear hK4; try clear K4
    refine gc_seq fun K6 hK6 => ?_
    refine gc_block ?_
    refine gc_region ?_
    refine gl_op rfl rfl rfl (op_pure hT rfl) ?_
    refine gl_op rfl rfl rfl (op_pure hT rfl) ?_
    refine gl_op rfl rfl rfl (op_pure hT rfl) ?_
    refine gl_ixR 3 hT hS rfl rfl rfl rfl rfl el5.cellsOf.1 el5.cellsOf.2 rfl rfl rfl (by omega) (by first | omega | (simp; omega)) (by first | exact Nat.le_refl _ | omega | (simp; omega)) fun g26 hg26 => ?_
    cases hg26
    refine gl_storeR 3 hS el5.cellsOf.1 el5.cellsOf.2 rfl rfl rfl rfl rfl rfl (by omega) rfl fun ws26 hS => ?_
    refine gl_nil ?_
    refine hK6 _ _ ?_
    clear hK6; try clear K6
    refine gc_region ?_
    refine gl_op rfl rfl rfl (op_pure hT rfl) ?_
    first | refine gl_fit hT rfl rfl rfl rfl (by omega) ?_ | refine gl_op rfl rfl rfl (op_pure hT rfl) ?_
    refine gl_op rfl rfl rfl (op_pure hT rfl) ?_
    refine gl_nil ?_
    intro a ha
    refine ⟨i + 1, ha.sub ⟨rfl, rfl, rfl, rfl, trivial⟩, by omega, by omega, ?_⟩
    rw [← mark_set (n := n) (by omega) (by omega)]
    exact hS
  · try simp only [decide_eq_true_eq, decide_eq_false_iff_not, Bool.not_eq_true', Bool.not_eq_false', Int.not_lt, Int.not_le, Nat.not_lt, Nat.not_le, Bool.true_eq, Bool.false_eq, reduceCtorEq] at c20
    have hin : n = i := by omega
    subst hin
    have hS : St B w0 w1 [.blk gb 81 [slV bL, slV bM], .row bL.1 bL.2.2 22 1 m (S.map slV), .row bM.1 bM.2.2 5 1 m (M.map uB), .row A c 5 1 n (List.replicate n (uB mu) ++ xs.drop n), .keep F wF, .keep G wG] := hS
    rw [List.drop_of_length_le (by omega), List.append_nil] at hS
    have hS := (hS.nil 5 1).nil 5 1
    refine gc_exit ?_
    refine hK2 _ _ ?_
    clear hK2; try clear K2
    refine gc_seq fun K7 hK7 => ?_
    refine gc_region ?_
    refine gl_op rfl rfl rfl (op_pure hT rfl) ?_
    refine gl_op rfl rfl rfl (op_pure hT rfl) ?_
    refine gl_lit hT hS el5 rfl rfl rfl rfl rfl rfl rfl rfl rfl fun g29 w29 hS => ?_
    have hS : St B w0 _ [.blk gb 81 [slV bL, slV bM], .row bL.1 bL.2.2 22 1 m (S.map slV), .row bM.1 bM.2.2 5 1 m (M.map uB), .row A c 5 1 n (List.replicate n (uB mu)), .keep F wF, .keep G wG, .row none 0 5 1 0 (List.replicate 0 (uB mu)), .row none 0 5 1 0 (List.replicate 0 (uB mu)), .row (some ⟨g29, 0, none⟩) 1 5 1 1 [uB mu]] := hS
    refine gl_appendM2 3 6 hT hS el5 (hS.rd (i := 8) rfl) rfl rfl rfl rfl rfl rfl rfl rfl rfl rfl (by decide) (.inl ⟨rfl, rfl, Nat.le_refl _⟩) (by omega) (by omega) fun Ag cg k1 Agr cgr kg w30 hk1 hg1 hS => ?_
    have hS := hS.erase 8
    refine gl_op rfl rfl rfl (op_pure hT rfl) ?_
    refine gl_nil ?_
    refine hK7 _ _ ?_
    clear hK7; try clear K7
    refine gc_seq fun K8 hK8 => ?_
    refine gc_seq fun K9 hK9 => ?_
    refine gc_region ?_
    refine gl_op rfl rfl rfl (op_pure hT rfl) ?_
    refine gl_nil ?_
    refine hK9 _ _ ?_
    clear hK9; try clear K9
    refine gc_block ?_
    have hS : St B w0 _ [.blk gb 81 [slV bL, slV bM], .row bL.1 bL.2.2 22 1 m (S.map slV), .row bM.1 bM.2.2 5 1 m (M.map uB), .row A c 5 1 k1 (List.replicate k1 (uB mu)), .keep F wF, .keep G wG, .row Agr cgr 5 1 kg (List.replicate kg (uB mu)), .row none 0 5 1 0 (List.replicate 0 (uB mu))] := hS
    refine gc_loop (fun kk a w' => ∃ (j k1 kg : Nat) (Ag : Option Addr) (cg : Nat) (Agr : Option Addr) (cgr : Nat), Fr 66 a [(0, .pointer (some ⟨gb, 0, none⟩)), (1, .slice A n c), (4, uB mu), (6, .slice Ag (n + 1 + j) cg), (7, .int .i64 (j : Nat))] ∧ j ≤ 100 ∧ kk = 101 - j ∧ n ≤ k1 ∧ ((Ag = A ∧ cg = c ∧ n + 1 + j ≤ k1) ∨ (Ag = Agr ∧ cg = cgr ∧ n + 1 + j ≤ kg)) ∧
      St B w0 w' [.blk gb 81 [slV bL, slV bM], .row bL.1 bL.2.2 22 1 m (S.map slV), .row bM.1 bM.2.2 5 1 m (M.map uB), .row A c 5 1 k1 (List.replicate k1 (uB mu)), .keep F wF, .keep G wG, .row Agr cgr 5 1 kg (List.replicate kg (uB mu)), .row none 0 5 1 0 (List.replicate 0 (uB mu))]) 101 ?_ ?_ ?_
    · intro a ha; exact ⟨0, k1, kg, Ag, cg, Agr, cgr, ha.sub ⟨rfl, rfl, rfl, rfl, rfl, trivial⟩, by omega, by omega, hk1, hg1, hS⟩
    · rintro a w' ⟨j, _, _, _, _, _, _, _, h1, h2, _⟩; omega
    clear hk1 hg1 hS
    rintro kk a w1 ⟨j, k1, kg, Ag, cg, Agr, cgr, hF, hj, hk, hk1, hg1, hS⟩
    refine gc_of hF ?_
    clear hF
    refine gc_seq fun K10 hK10 => ?_
    refine gc_seq fun K11 hK11 => ?_
    refine gc_region ?_
    refine gl_op rfl rfl rfl (op_pure hT rfl) ?_
    refine gl_op rfl rfl rfl (op_pure hT rfl) ?_
    refine gl_nil ?_
    refine hK11 _ _ ?_
    clear hK11; try clear K11
    refine gc_cond rfl rfl (fun c32 => ?_) (fun c32 => ?_)
    · try simp only [decide_eq_true_eq, decide_eq_false_iff_not, Bool.not_eq_true', Bool.not_eq_false', Int.not_lt, Int.not_le, Nat.not_lt, Nat.not_le, Bool.true_eq, Bool.false_eq, reduceCtorEq] at c32
      refine gc_skip ?_
      refine hK10 _ _ ?_
      clear hK10; try clear K10
      refine gc_seq fun K12 hK12 => ?_
      refine gc_block ?_
      refine gc_region ?_
      refine gl_op rfl rfl rfl (op_pure hT rfl) ?_
      refine gl_op rfl rfl rfl (op_pure hT rfl) ?_
      refine gl_lit hT hS el5 rfl rfl rfl rfl rfl rfl rfl rfl rfl fun g37 w37 hS => ?_
      refine gl_appendM2 3 6 hT hS el5 (hS.rd (i := 8) rfl) rfl rfl rfl rfl rfl rfl rfl rfl rfl rfl (by decide) hg1 (by omega) (by omega) fun Ag2 cg2 k2 Agr2 cgr2 kg2 w38 hk2 hg2 hS => ?_
      have hS := hS.erase 8
      refine gl_op rfl rfl rfl (op_pure hT rfl) ?_
      refine gl_nil ?_
      refine hK12 _ _ ?_
      clear hK12; try clear K12
      refine gc_region ?_
      refine gl_op rfl rfl rfl (op_pure hT rfl) ?_
      first | refine gl_fit hT rfl rfl rfl rfl (by omega) ?_ | refine gl_op rfl rfl rfl (op_pure hT rfl) ?_
      refine gl_op rfl rfl rfl (op_pure hT rfl) ?_
      refine gl_nil ?_
      intro a ha
      exact ⟨j + 1, k2, kg2, Ag2, cg2, Agr2, cgr2, ha.sub ⟨rfl, rfl, rfl, rfl, rfl, trivial⟩, by omega, by omega, by omega, hg2, hS⟩
    · try simp only [decide_eq_true_eq, decide_eq_false_iff_not, Bool.not_eq_true', Bool.not_eq_false', Int.not_lt, Int.not_le, Nat.not_lt, Nat.not_le, Bool.true_eq, Bool.false_eq, reduceCtorEq] at c32
      have hj100 : j = 100 := by omega
      subst hj100
      refine gc_exit ?_
      refine hK8 _ _ ?_
      clear hK8; try clear K8
      refine gc_cut (fun a w' => ∃ (bL' : Sl) (Ax : Option Addr) (cx k3 : Nat) (Axr : Option Addr) (cxr kx : Nat), Fr 66 a [(0, .pointer (some ⟨gb, 0, none⟩)), (4, uB mu)] ∧ bL'.2.1 = m + 3 ∧ k1 ≤ k3 ∧ ((Ax = A ∧ cx = c ∧ n + 1 ≤ k3) ∨ (Ax = Axr ∧ cx = cxr ∧ n + 1 ≤ kx)) ∧
      St B w0 w' [.blk gb 81 [slV bL', slV bM], .row bL'.1 bL'.2.2 22 1 (m + 3) ((S ++ [(A, n, c), (Ax, n + 1, cx), (Ag, n + 101, cg)]).map slV), .row bM.1 bM.2.2 5 1 m (M.map uB), .row A c 5 1 k3 (List.replicate k3 (uB mu)), .keep F wF, .keep G wG, .row Agr cgr 5 1 kg (List.replicate kg (uB mu)), .row Axr cxr 5 1 kx (List.replicate kx (uB mu))]) ?_ ?_
      · skip
        refine gc_anyS ((((hS.blank 0).blank 1).blank 3).blank 7) (by kernel_rfl) rfl fun nq10 hK => ?_
        have hS := hS.dr nq10
        refine ga_take 0 rfl rfl rfl rfl (by kernel_rfl) (fun _ _ _ _ _ h => h) hK (fun w1 hS => op_pure hT rfl) ?_
        refine ga_take 1 rfl rfl rfl rfl (by kernel_rfl) (fun _ _ _ _ _ h => h) hK (fun w1 hS => op_pure hT rfl) ?_
        refine ga_take 2 rfl rfl rfl rfl (by kernel_rfl) (fun _ _ _ _ _ h => h) hK (fun w1 hS => op_pure hT rfl) ?_
        refine ga_take 3 rfl rfl rfl rfl (by kernel_rfl) (fun _ _ _ _ _ h => h) hK (fun w1 hS => op_fieldB 0 rfl Tryd.underlying81 rfl el36 rfl rfl) ?_
        refine ga_take 5 rfl rfl rfl rfl (by kernel_rfl) (fun _ _ _ _ _ h => h) hK (fun w1 hS => op_pure hT rfl) ?_
        refine ga_take 6 rfl rfl rfl rfl (by kernel_rfl) (fun _ _ _ _ _ h => h) hK (fun w1 hS => op_pure hT rfl) ?_
        refine ga_take 7 rfl rfl rfl rfl (by kernel_rfl) (fun _ _ _ _ _ h => h) hK (fun w1 hS => op_pure hT rfl) ?_
        refine ga_take 10 rfl rfl rfl rfl (by kernel_rfl) (fun _ _ _ _ _ h => h) hK (fun w1 hS => op_pure hT rfl) ?_
        refine ga_two 4 8 (by kernel_rfl) rfl rfl ?_ ?_
        · skip
          refine gl_op rfl rfl rfl (op_loadB 0 hT hS rfl rfl rfl rfl rfl rfl) ?_
          refine gl_spell 43 (v := .slice bL.1 m bL.2.2) rfl (by rw [← hbL]) ?_
          refine gl_nil ?_
          refine ga_next (((((hS.blank 0).blank 1).blank 3).blank 7).pre 8) fun hK => ?_
          refine ga_one 8 (by kernel_rfl) rfl ?_
          refine gl_lit hT hS el5 rfl rfl rfl rfl rfl rfl rfl rfl rfl fun g47 w47 hS => ?_
          refine gl_nil ?_
          refine ga_next (((((hS.blank 0).blank 1).blank 3).blank 7).pre 8) fun hK => ?_
          refine ga_one 9 (by kernel_rfl) rfl ?_
          refine gl_appendM2 3 7 hT hS el5 (hS.rd (i := 8) rfl) rfl rfl rfl rfl rfl rfl rfl rfl rfl rfl (by decide) (.inl ⟨rfl, rfl, hk1⟩) (by omega) (by omega) fun Ax cx k3 Axr cxr kx w48 hk3 hx1 hS => ?_
          have hS := hS.erase 8
          refine gl_nil ?_
          refine ga_next (((((hS.blank 0).blank 1).blank 3).blank 7).pre 8) fun hK => ?_
          refine ga_one 11 (by kernel_rfl) rfl ?_
          refine gl_lit hT hS el22 rfl rfl rfl rfl rfl rfl rfl rfl rfl fun g50 w50 hS => ?_
          refine gl_nil ?_
          refine ga_next (((((hS.blank 0).blank 1).blank 3).blank 7).pre 8) fun hK => ?_
          refine ga_one 12 (by kernel_rfl) rfl ?_
          refine gl_append 1 hT hS el22 (hS.rd (i := 8) rfl) (rfl) rfl rfl rfl rfl rfl rfl rfl rfl (by omega) (by omega) fun A51 c51 w51 hS => ?_
          have hS := hS.erase 8
          refine gl_nil ?_
          refine ga_next (((((hS.blank 0).blank 1).blank 3).blank 7).pre 8) fun hK => ?_
          refine ga_take 13 rfl rfl rfl rfl (by kernel_rfl) (fun _ _ _ _ _ h => h) hK (fun w1 hS => op_pure hT rfl) ?_
          refine ga_take 14 rfl rfl rfl rfl (by kernel_rfl) (fun _ _ _ _ _ h => h) hK (fun w1 hS => op_fieldB 0 rfl Tryd.underlying81 rfl el36 rfl rfl) ?_
          refine ga_one 15 (by kernel_rfl) rfl ?_
          refine gl_store 0 hS el36.cellsOf.1 el36.cellsOf.2 rfl rfl rfl rfl rfl rfl rfl rfl fun wlaw_go_61 hS => ?_
          refine gl_nil ?_
          refine ga_next (((((hS.blank 0).blank 1).blank 3).blank 7).pre 8) fun hK => ?_
          refine ga_done (by kernel_rfl) ?_
          intro a ha
          refine ⟨(A51, m + 3, c51), Ax, cx, k3, Axr, cxr, kx, ha.sub ⟨rfl, rfl, trivial⟩, rfl, hk3, hx1, ?_⟩
          rw [List.map_append]
          exact hS
        · skip
          refine gl_lit hT hS el5 rfl rfl rfl rfl rfl rfl rfl rfl rfl fun g47 w47 hS => ?_
          refine gl_nil ?_
          refine ga_next (((((hS.blank 0).blank 1).blank 3).blank 7).pre 8) fun hK => ?_
          refine ga_two 4 9 (by kernel_rfl) rfl rfl ?_ ?_
          · skip
            refine gl_op rfl rfl rfl (op_loadB 0 hT hS rfl rfl rfl rfl rfl rfl) ?_
            refine gl_spell 43 (v := .slice bL.1 m bL.2.2) rfl (by rw [← hbL]) ?_
            refine gl_nil ?_
            refine ga_next (((((hS.blank 0).blank 1).blank 3).blank 7).pre 8) fun hK => ?_
            refine ga_one 9 (by kernel_rfl) rfl ?_
            refine gl_appendM2 3 7 hT hS el5 (hS.rd (i := 8) rfl) rfl rfl rfl rfl rfl rfl rfl rfl rfl rfl (by decide) (.inl ⟨rfl, rfl, hk1⟩) (by omega) (by omega) fun Ax cx k3 Axr cxr kx w48 hk3 hx1 hS => ?_
            have hS := hS.erase 8
            refine gl_nil ?_
            refine ga_next (((((hS.blank 0).blank 1).blank 3).blank 7).pre 8) fun hK => ?_
            refine ga_one 11 (by kernel_rfl) rfl ?_
            refine gl_lit hT hS el22 rfl rfl rfl rfl rfl rfl rfl rfl rfl fun g50 w50 hS => ?_
            refine gl_nil ?_
            refine ga_next (((((hS.blank 0).blank 1).blank 3).blank 7).pre 8) fun hK => ?_
            refine ga_one 12 (by kernel_rfl) rfl ?_
            refine gl_append 1 hT hS el22 (hS.rd (i := 8) rfl) (rfl) rfl rfl rfl rfl rfl rfl rfl rfl (by omega) (by omega) fun A51 c51 w51 hS => ?_
            have hS := hS.erase 8
            refine gl_nil ?_
            refine ga_next (((((hS.blank 0).blank 1).blank 3).blank 7).pre 8) fun hK => ?_
            refine ga_take 13 rfl rfl rfl rfl (by kernel_rfl) (fun _ _ _ _ _ h => h) hK (fun w1 hS => op_pure hT rfl) ?_
            refine ga_take 14 rfl rfl rfl rfl (by kernel_rfl) (fun _ _ _ _ _ h => h) hK (fun w1 hS => op_fieldB 0 rfl Tryd.underlying81 rfl el36 rfl rfl) ?_
            refine ga_one 15 (by kernel_rfl) rfl ?_
            refine gl_store 0 hS el36.cellsOf.1 el36.cellsOf.2 rfl rfl rfl rfl rfl rfl rfl rfl fun wlaw_go_61 hS => ?_
            refine gl_nil ?_
            refine ga_next (((((hS.blank 0).blank 1).blank 3).blank 7).pre 8) fun hK => ?_
            refine ga_done (by kernel_rfl) ?_
            intro a ha
            refine ⟨(A51, m + 3, c51), Ax, cx, k3, Axr, cxr, kx, ha.sub ⟨rfl, rfl, trivial⟩, rfl, hk3, hx1, ?_⟩
            rw [List.map_append]
            exact hS
          · skip
            refine gl_appendM2 3 7 hT hS el5 (hS.rd (i := 8) rfl) rfl rfl rfl rfl rfl rfl rfl rfl rfl rfl (by decide) (.inl ⟨rfl, rfl, hk1⟩) (by omega) (by omega) fun Ax cx k3 Axr cxr kx w48 hk3 hx1 hS => ?_
            have hS := hS.erase 8
            refine gl_nil ?_
            refine ga_next (((((hS.blank 0).blank 1).blank 3).blank 7).pre 8) fun hK => ?_
            refine ga_two 4 11 (by kernel_rfl) rfl rfl ?_ ?_
            · skip
              refine gl_op rfl rfl rfl (op_loadB 0 hT hS rfl rfl rfl rfl rfl rfl) ?_
              refine gl_spell 43 (v := .slice bL.1 m bL.2.2) rfl (by rw [← hbL]) ?_
              refine gl_nil ?_
              refine ga_next (((((hS.blank 0).blank 1).blank 3).blank 7).pre 8) fun hK => ?_
              refine ga_one 11 (by kernel_rfl) rfl ?_
              refine gl_lit hT hS el22 rfl rfl rfl rfl rfl rfl rfl rfl rfl fun g50 w50 hS => ?_
              refine gl_nil ?_
              refine ga_next (((((hS.blank 0).blank 1).blank 3).blank 7).pre 8) fun hK => ?_
              refine ga_one 12 (by kernel_rfl) rfl ?_
              refine gl_append 1 hT hS el22 (hS.rd (i := 8) rfl) (rfl) rfl rfl rfl rfl rfl rfl rfl rfl (by omega) (by omega) fun A51 c51 w51 hS => ?_
              have hS := hS.erase 8
              refine gl_nil ?_
              refine ga_next (((((hS.blank 0).blank 1).blank 3).blank 7).pre 8) fun hK => ?_
              refine ga_take 13 rfl rfl rfl rfl (by kernel_rfl) (fun _ _ _ _ _ h => h) hK (fun w1 hS => op_pure hT rfl) ?_
              refine ga_take 14 rfl rfl rfl rfl (by kernel_rfl) (fun _ _ _ _ _ h => h) hK (fun w1 hS => op_fieldB 0 rfl Tryd.underlying81 rfl el36 rfl rfl) ?_
              refine ga_one 15 (by kernel_rfl) rfl ?_
              refine gl_store 0 hS el36.cellsOf.1 el36.cellsOf.2 rfl rfl rfl rfl rfl rfl rfl rfl fun wlaw_go_61 hS => ?_
              refine gl_nil ?_
              refine ga_next (((((hS.blank 0).blank 1).blank 3).blank 7).pre 8) fun hK => ?_
              refine ga_done (by kernel_rfl) ?_
              intro a ha
              refine ⟨(A51, m + 3, c51), Ax, cx, k3, Axr, cxr, kx, ha.sub ⟨rfl, rfl, trivial⟩, rfl, hk3, hx1, ?_⟩
              rw [List.map_append]
              exact hS
            · skip
              refine gl_lit hT hS el22 rfl rfl rfl rfl rfl rfl rfl rfl rfl fun g50 w50 hS => ?_
              refine gl_nil ?_
              refine ga_next (((((hS.blank 0).blank 1).blank 3).blank 7).pre 8) fun hK => ?_
              refine ga_one 4 (by kernel_rfl) rfl ?_
              refine gl_op rfl rfl rfl (op_loadB 0 hT hS rfl rfl rfl rfl rfl rfl) ?_
              refine gl_spell 43 (v := .slice bL.1 m bL.2.2) rfl (by rw [← hbL]) ?_
              refine gl_nil ?_
              refine ga_next (((((hS.blank 0).blank 1).blank 3).blank 7).pre 8) fun hK => ?_
              refine ga_one 12 (by kernel_rfl) rfl ?_
              refine gl_append 1 hT hS el22 (hS.rd (i := 8) rfl) (rfl) rfl rfl rfl rfl rfl rfl rfl rfl (by omega) (by omega) fun A51 c51 w51 hS => ?_
              have hS := hS.erase 8
              refine gl_nil ?_
              refine ga_next (((((hS.blank 0).blank 1).blank 3).blank 7).pre 8) fun hK => ?_
              refine ga_take 13 rfl rfl rfl rfl (by kernel_rfl) (fun _ _ _ _ _ h => h) hK (fun w1 hS => op_pure hT rfl) ?_
              refine ga_take 14 rfl rfl rfl rfl (by kernel_rfl) (fun _ _ _ _ _ h => h) hK (fun w1 hS => op_fieldB 0 rfl Tryd.underlying81 rfl el36 rfl rfl) ?_
              refine ga_one 15 (by kernel_rfl) rfl ?_
              refine gl_store 0 hS el36.cellsOf.1 el36.cellsOf.2 rfl rfl rfl rfl rfl rfl rfl rfl fun wlaw_go_61 hS => ?_
              refine gl_nil ?_
              refine ga_next (((((hS.blank 0).blank 1).blank 3).blank 7).pre 8) fun hK => ?_
              refine ga_done (by kernel_rfl) ?_
              intro a ha
              refine ⟨(A51, m + 3, c51), Ax, cx, k3, Axr, cxr, kx, ha.sub ⟨rfl, rfl, trivial⟩, rfl, hk3, hx1, ?_⟩
              rw [List.map_append]
              exact hS
      rintro a w1 ⟨bL', Ax, cx, k3, Axr, cxr, kx, hF, hbL', hk3, hx1, hS⟩
      refine gc_of hF ?_
      clear hF
      refine gc_region ?_
      refine gl_op rfl rfl rfl (op_pure hT rfl) ?_
      refine gl_op rfl rfl rfl (op_pure hT rfl) ?_
      refine gl_op rfl rfl rfl (op_pure hT rfl) ?_
      refine gl_op rfl rfl rfl (op_fieldB 1 rfl Tryd.underlying81 rfl el22 rfl rfl) ?_
      refine gl_op rfl rfl rfl (op_loadB 0 hT hS rfl rfl rfl rfl rfl rfl) ?_
      refine gl_spell 58 (v := .slice bM.1 m bM.2.2) rfl (by rw [← hbM]) ?_
      refine gl_op rfl rfl rfl (op_pure hT rfl) ?_
      refine gl_op rfl rfl rfl (op_pure hT rfl) ?_
      refine gl_op rfl rfl rfl (op_pure hT rfl) ?_
      refine gl_lit hT hS el5 rfl rfl rfl rfl rfl rfl rfl rfl rfl fun g62 w62 hS => ?_
      refine gl_append 2 hT hS el5 (hS.rd (i := 8) rfl) (rfl) rfl rfl rfl rfl rfl rfl rfl rfl (by first | omega | (simp; omega)) (by first | omega | (simp; omega)) fun A63 c63 w63 hS => ?_
      have hS := hS.erase 8
      refine gl_op rfl rfl rfl (op_pure hT rfl) ?_
      refine gl_op rfl rfl rfl (op_fieldB 1 rfl Tryd.underlying81 rfl el22 rfl rfl) ?_
      refine gl_store 0 hS el22.cellsOf.1 el22.cellsOf.2 rfl rfl rfl rfl rfl rfl rfl rfl fun wlaw_go_62 hS => ?_
      refine gl_nil ?_
      refine gk_end0 rfl ?_
      obtain ⟨L2, hL2⟩ : ∃ L2 : List It, L2 = [.row A c 5 1 k3 (List.replicate k3 (uB mu)), .keep G wG, .row Agr cgr 5 1 kg (List.replicate kg (uB mu)), .row Axr cxr 5 1 kx (List.replicate kx (uB mu))] := ⟨_, rfl⟩
      have hS : St B w0 _ [.blk gb 81 [slV bL', slV (A63, m + 3, c63)], .row bL'.1 bL'.2.2 22 1 (m + 3) ((S ++ [(A, n, c), (Ax, n + 1, cx), (Ag, n + 101, cg)]).map slV), .row A63 c63 5 1 (m + 3) (M.map uB ++ [uB mu, uB mu, uB mu]), .row A c 5 1 k3 (List.replicate k3 (uB mu)), .keep F wF, .keep G wG, .row Agr cgr 5 1 kg (List.replicate kg (uB mu)), .row Axr cxr 5 1 kx (List.replicate kx (uB mu))] := hS
      have r1 := hS.rowRd (i := 3) rfl (ok := fun b => ∃ it ∈ L2, it.fp b) fun b hb => ⟨_, by rw [hL2]; simp, hb⟩
      have r2 := hS.rowRd (i := 6) rfl (ok := fun b => ∃ it ∈ L2, it.fp b) fun b hb => ⟨.row Agr cgr 5 1 kg (List.replicate kg (uB mu)), by rw [hL2]; simp, hb⟩
      have r3 := hS.rowRd (i := 7) rfl (ok := fun b => ∃ it ∈ L2, it.fp b) fun b hb => ⟨.row Axr cxr 5 1 kx (List.replicate kx (uB mu)), by rw [hL2]; simp, hb⟩
      have hK := (hS.permB (L' := [.blk gb 81 [slV bL', slV (A63, m + 3, c63)], .row bL'.1 bL'.2.2 22 1 (m + 3) ((S ++ [(A, n, c), (Ax, n + 1, cx), (Ag, n + 101, cg)]).map slV), .row A63 c63 5 1 (m + 3) (M.map uB ++ [uB mu, uB mu, uB mu]), .keep F wF] ++ L2) (by rw [hL2]; exact .cons _ (.cons _ (.cons _ (.swap ..))))).keepRest
      refine ⟨rfl, bL', (A63, m + 3, c63), Ax, Ag, cx, cg, fun b => ∃ it ∈ L2, it.fp b, hbL', rfl, ?_, fun hq => (hS.keepRd (i := 5) rfl hq).weaken fun b hb => ⟨.keep G wG, by rw [hL2]; simp, hb⟩, rd_rep r1 (by omega), ?_, ?_⟩
      · rw [List.map_append (l₁ := M)]; exact hK
      · rcases hx1 with ⟨h1, h2, h3⟩ | ⟨h1, h2, h3⟩
        · rw [h1]; exact rd_rep r1 h3
        · rw [h1]; exact rd_rep r3 h3
      · rcases hg1 with ⟨h1, h2, h3⟩ | ⟨h1, h2, h3⟩
        · rw [h1]; exact rd_rep r1 (by omega)
        · rw [h1]; exact rd_rep r2 (by omega)
/-- What a book holds: lists, each all over with its mark. -/
structure BkD (w : World) (K : Nat → Prop) (S : List Sl) (M : List UInt8) : Prop where
  len : M.length = S.length
  rd : ∀ (i : Nat) (x : Sl) (m : UInt8), S[i]? = some x → M[i]? = some m → Rd w K x.1 x.2.1 1 (List.replicate x.2.1 (uB m)) ∧ x.2.1 ≤ 1048576
set_option maxHeartbeats 4000000 in
set_option maxRecDepth 100000 in
theorem whole_calls (gb : Nat) (bL bM : Sl) (S : List Sl) (M : List UInt8) (w : World) {okL okM K : Nat → Prop} (h0 : w.cell? ⟨gb, 0, none⟩ = some (slV bL)) (h1 : w.cell? ⟨gb, 1, none⟩ = some (slV bM)) (hL : RdE w okL slV bL.1 S) (hM : RdE w okM uB bM.1 M) (hbL : bL.2.1 = S.length) (hbM : bM.2.1 = M.length) (hB : BkD w K S M) (hs : S.length ≤ 1048576) :
    Calls Tryd.prog 46 ⟨[.pointer (some ⟨gb, 0, none⟩)]⟩ w fun e w' => e = .returned (.bool true) ∧ Below w.heap.size w w' := by
  have hlen := hB.len
  have h0' : w.cell? ⟨gb, 0, none⟩ = some (.slice bL.1 S.length bL.2.2) := by rw [h0, ← hbL]
  have h1' : w.cell? ⟨gb, 1, none⟩ = some (.slice bM.1 M.length bM.2.2) := by rw [h1, ← hbM]
  refine gc_enter (N := 44) Tryd.func46 rfl rfl rfl [(0, _)] rfl ?_
  have hS := St.start w
  refine gc_seq fun K1 hK1 => ?_
  refine gc_region ?_
  refine gl_op rfl rfl rfl (op_pure hT rfl) ?_
  refine gl_nil ?_
  refine hK1 _ _ ?_
  clear hK1; try clear K1
  refine gc_seq fun K2 hK2 => ?_
  refine gc_seq fun K3 hK3 => ?_
  refine gc_region ?_
  refine gl_op rfl rfl rfl (op_pure hT rfl) ?_
  refine gl_nil ?_
  refine hK3 _ _ ?_
  clear hK3; try clear K3
  refine gc_block ?_
  refine gc_loop (fun kk a w' => ∃ (i : Nat), Fr 44 a [(0, .pointer (some ⟨gb, 0, none⟩)), (3, .int .i64 (i : Nat))] ∧ i ≤ S.length ∧ kk = S.length + 1 - i ∧ St w.heap.size w w' []) (S.length + 1) ?_ ?_ ?_
  · intro a ha; exact ⟨0, ha.sub ⟨rfl, rfl, trivial⟩, by omega, by omega, hS⟩
  · rintro a w' ⟨j, _, h1, h2, _⟩; omega
  rintro kk a w1 ⟨i, hF, hi, hk, hS⟩
  refine gc_of hF ?_
  clear hF
  refine gc_seq fun K4 hK4 => ?_
  refine gc_seq fun K5 hK5 => ?_
  refine gc_region ?_
  refine gl_op rfl rfl rfl (op_pure hT rfl) ?_
  refine gl_op rfl rfl rfl (op_pure hT rfl) ?_
  refine gl_op rfl rfl rfl (op_pure hT rfl) ?_
  refine gl_op rfl rfl rfl (op_fieldAddr rfl Tryd.underlying81 rfl el36 (by decide) rfl) ?_
  refine gl_spell 8 (v := .pointer (some ⟨gb, 0, none⟩)) rfl rfl ?_
  refine gl_op rfl rfl rfl (op_load hT rfl rfl rfl rfl (cellOf hS.below h0')) ?_
  refine gl_op rfl rfl rfl (op_pure hT rfl) ?_
  refine gl_op rfl rfl rfl (op_pure hT rfl) ?_
  refine gl_nil ?_
  refine hK5 _ _ ?_
  clear hK5; try clear K5
  refine gc_cond rfl rfl (fun c11 => ?_) (fun c11 => ?_)
  · try simp only [decide_eq_true_eq, decide_eq_false_iff_not, Bool.not_eq_true', Bool.not_eq_false', Int.not_lt, Int.not_le, Nat.not_lt, Nat.not_le, Bool.true_eq, Bool.false_eq, reduceCtorEq] at c11
    refine gc_skip ?_
    refine hK4 _ _ ?_
    clear hK4; try clear K4
    refine gc_seq fun K6 hK6 => ?_
    refine gc_block ?_
    refine gc_seq fun K7 hK7 => ?_
    refine gc_region ?_
    refine gl_op rfl rfl rfl (op_pure hT rfl) ?_
    refine gl_nil ?_
    refine hK7 _ _ ?_
    clear hK7; try clear K7
    refine gc_block ?_
    have hil : i < S.length := by omega
    obtain ⟨x, hx⟩ : ∃ x, S[i]? = some x := ⟨_, List.getElem?_eq_getElem hil⟩
    obtain ⟨mu, hmu⟩ : ∃ x, M[i]? = some x := ⟨_, List.getElem?_eq_getElem (by omega)⟩
    obtain ⟨hrx, hxl⟩ := hB.rd i x mu hx hmu
    obtain ⟨adL, hAL, hcL⟩ := hL.at x (i := (i : Int)) (by omega) (by omega)
    obtain ⟨adM, hAM, hcM⟩ := hM.at mu (i := (i : Int)) (by omega) (by omega)
    have e1 : S.getD ((i : Int)).toNat x = x := by rw [Int.toNat_natCast, List.getD_eq_getElem?_getD, hx]; rfl
    have e2 : M.getD ((i : Int)).toNat mu = mu := by rw [Int.toNat_natCast, List.getD_eq_getElem?_getD, hmu]; rfl
    rw [e1] at hcL
    rw [e2] at hcM
    refine gc_loop (fun kk a w' => ∃ (q : Nat), Fr 44 a [(0, .pointer (some ⟨gb, 0, none⟩)), (3, .int .i64 (i : Nat)), (4, .int .i64 (q : Nat))] ∧ q ≤ x.2.1 ∧ kk = x.2.1 + 1 - q ∧ St w.heap.size w w' []) (x.2.1 + 1) ?_ ?_ ?_
    · intro a ha; exact ⟨0, ha.sub ⟨rfl, rfl, rfl, trivial⟩, by omega, by omega, hS⟩
    · rintro a w' ⟨j, _, h1, h2, _⟩; omega
    rintro kk a w1 ⟨q, hF, hq, hkk, hS⟩
    refine gc_of hF ?_
    clear hF
    refine gc_seq fun K8 hK8 => ?_
    refine gc_seq fun K9 hK9 => ?_
    refine gc_region ?_
    refine gl_op rfl rfl rfl (op_pure hT rfl) ?_
    refine gl_op rfl rfl rfl (op_pure hT rfl) ?_
    refine gl_op rfl rfl rfl (op_pure hT rfl) ?_
    refine gl_op rfl rfl rfl (op_fieldAddr rfl Tryd.underlying81 rfl el36 (by decide) rfl) ?_
    refine gl_spell 17 (v := .pointer (some ⟨gb, 0, none⟩)) rfl rfl ?_
    refine gl_op rfl rfl rfl (op_load hT rfl rfl rfl rfl (cellOf hS.below h0')) ?_
    refine gl_op rfl rfl rfl (op_pure hT rfl) ?_
    refine gl_op rfl rfl rfl (op_indexAddr hT rfl rfl el22.cellsOf.1 el22.cellsOf.2 rfl rfl (by omega) (by omega) hAL) ?_
    refine gl_op rfl rfl rfl (op_load hT rfl rfl rfl rfl (cellOf hS.below hcL)) ?_
    refine gl_op rfl rfl rfl (op_pure hT rfl) ?_
    refine gl_op rfl rfl rfl (op_pure hT rfl) ?_
    refine gl_nil ?_
    refine hK9 _ _ ?_
    clear hK9; try clear K9
    refine gc_cond rfl rfl (fun c23 => ?_) (fun c23 => ?_)
    · try simp only [decide_eq_true_eq, decide_eq_false_iff_not, Bool.not_eq_true', Bool.not_eq_false', Int.not_lt, Int.not_le, Nat.not_lt, Nat.not_le, Bool.true_eq, Bool.false_eq, reduceCtorEq] at c23
      refine gc_skip ?_
      refine hK8 _ _ ?_
      clear hK8; try clear K8
      refine gc_seq fun K10 hK10 => ?_
      refine gc_block ?_
      refine gc_seq fun K11 hK11 => ?_
      refine gc_anyS hS (by kernel_rfl) rfl fun nq7 hK => ?_
      have hS := hS.dr nq7
      have hqx : q < x.2.1 := by omega
      obtain ⟨adX, hAX, _, hcX0⟩ := hrx.2 (by omega)
      have hcX := hcX0 q (uB mu) (by rw [List.getElem?_replicate, if_pos hqx])
      refine ga_take 0 rfl rfl rfl rfl (by kernel_rfl) (fun _ _ _ _ _ h => h) hK (fun w1 hS => op_pure hT rfl) ?_
      refine ga_take 1 rfl rfl rfl rfl (by kernel_rfl) (fun _ _ _ _ _ h => h) hK (fun w1 hS => op_pure hT rfl) ?_
      refine ga_take 2 rfl rfl rfl rfl (by kernel_rfl) (fun _ _ _ _ _ h => h) hK (fun w1 hS => op_fieldAddr rfl Tryd.underlying81 rfl el36 (by decide) rfl) ?_
      refine ga_spell 28 (v := .pointer (some ⟨gb, 0, none⟩)) rfl (rfl) ?_
      refine ga_take 3 rfl rfl rfl rfl (by kernel_rfl) (fun _ _ _ _ _ h => h) hK (fun w1 hS => op_load hT rfl rfl rfl rfl (cellOf hS.below h0')) ?_
      refine ga_take 4 rfl rfl rfl rfl (by kernel_rfl) (fun _ _ _ _ _ h => h) hK (fun w1 hS => op_pure hT rfl) ?_
      refine ga_take 5 rfl rfl rfl rfl (by kernel_rfl) (fun _ _ _ _ _ h => h) hK (fun w1 hS => op_indexAddr hT rfl rfl el22.cellsOf.1 el22.cellsOf.2 rfl rfl (by omega) (by omega) hAL) ?_
      refine ga_take 6 rfl rfl rfl rfl (by kernel_rfl) (fun _ _ _ _ _ h => h) hK (fun w1 hS => op_load hT rfl rfl rfl rfl (cellOf hS.below hcL)) ?_
      refine ga_take 7 rfl rfl rfl rfl (by kernel_rfl) (fun _ _ _ _ _ h => h) hK (fun w1 hS => op_pure hT rfl) ?_
      refine ga_take 8 rfl rfl rfl rfl (by kernel_rfl) (fun _ _ _ _ _ h => h) hK (fun w1 hS => op_indexAddr hT rfl rfl el5.cellsOf.1 el5.cellsOf.2 rfl rfl (by omega) (by omega) hAX) ?_
      refine ga_spell 34 (v := .pointer (some (adX.add q))) rfl (by rw [Int.toNat_natCast, Nat.mul_one]) ?_
      refine ga_take 9 rfl rfl rfl rfl (by kernel_rfl) (fun _ _ _ _ _ h => h) hK (fun w1 hS => op_load hT rfl rfl rfl rfl (cellOf hS.below hcX)) ?_
      refine ga_take 10 rfl rfl rfl rfl (by kernel_rfl) (fun _ _ _ _ _ h => h) hK (fun w1 hS => op_pure hT rfl) ?_
      refine ga_take 11 rfl rfl rfl rfl (by kernel_rfl) (fun _ _ _ _ _ h => h) hK (fun w1 hS => op_pure hT rfl) ?_
      refine ga_take 12 rfl rfl rfl rfl (by kernel_rfl) (fun _ _ _ _ _ h => h) hK (fun w1 hS => op_fieldAddr rfl Tryd.underlying81 rfl el22 (by decide) rfl) ?_
      refine ga_spell 38 (v := .pointer (some ⟨gb, 1, none⟩)) rfl (rfl) ?_
      refine ga_take 13 rfl rfl rfl rfl (by kernel_rfl) (fun _ _ _ _ _ h => h) hK (fun w1 hS => op_load hT rfl rfl rfl rfl (cellOf hS.below h1')) ?_
      refine ga_take 14 rfl rfl rfl rfl (by kernel_rfl) (fun _ _ _ _ _ h => h) hK (fun w1 hS => op_pure hT rfl) ?_
      refine ga_take 15 rfl rfl rfl rfl (by kernel_rfl) (fun _ _ _ _ _ h => h) hK (fun w1 hS => op_indexAddr hT rfl rfl el5.cellsOf.1 el5.cellsOf.2 rfl rfl (by omega) (by omega) hAM) ?_
      refine ga_take 16 rfl rfl rfl rfl (by kernel_rfl) (fun _ _ _ _ _ h => h) hK (fun w1 hS => op_load hT rfl rfl rfl rfl (cellOf hS.below hcM)) ?_
      refine ga_take 17 rfl rfl rfl rfl (by kernel_rfl) (fun _ _ _ _ _ h => h) hK (fun w1 hS => op_pure hT rfl) ?_
      refine ga_spell 43 (v := .bool false) rfl (by simp) ?_
      refine ga_done (by kernel_rfl) ?_
      refine hK11 _ _ ?_
      clear hK11; try clear K11
      refine gc_cond_f rfl ?_
      refine gc_skip ?_
      refine hK10 _ _ ?_
      clear hK10; try clear K10
      refine gc_region ?_
      refine gl_op rfl rfl rfl (op_pure hT rfl) ?_
      first | refine gl_fit hT rfl rfl rfl rfl (by omega) ?_ | refine gl_op rfl rfl rfl (op_pure hT rfl) ?_
      refine gl_op rfl rfl rfl (op_pure hT rfl) ?_
      refine gl_nil ?_
      intro a ha
      exact ⟨q + 1, ha.sub ⟨rfl, rfl, rfl, trivial⟩, by omega, by omega, hS⟩
    · try simp only [decide_eq_true_eq, decide_eq_false_iff_not, Bool.not_eq_true', Bool.not_eq_false', Int.not_lt, Int.not_le, Nat.not_lt, Nat.not_le, Bool.true_eq, Bool.false_eq, reduceCtorEq] at c23
      refine gc_exit ?_
      refine hK6 _ _ ?_
      clear hK6; try clear K6
      refine gc_region ?_
      refine gl_op rfl rfl rfl (op_pure hT rfl) ?_
      first | refine gl_fit hT rfl rfl rfl rfl (by omega) ?_ | refine gl_op rfl rfl rfl (op_pure hT rfl) ?_
      refine gl_op rfl rfl rfl (op_pure hT rfl) ?_
      refine gl_nil ?_
      intro a ha
      exact ⟨i + 1, ha.sub ⟨rfl, rfl, trivial⟩, by omega, by omega, hS⟩
  · try simp only [decide_eq_true_eq, decide_eq_false_iff_not, Bool.not_eq_true', Bool.not_eq_false', Int.not_lt, Int.not_le, Nat.not_lt, Nat.not_le, Bool.true_eq, Bool.false_eq, reduceCtorEq] at c11
    refine gc_exit ?_
    refine hK2 _ _ ?_
    clear hK2; try clear K2
    refine gc_seq fun K12 hK12 => ?_
    refine gc_region ?_
    refine gl_op rfl rfl rfl (op_pure hT rfl) ?_
    refine gl_nil ?_
    refine hK12 _ _ ?_
    clear hK12; try clear K12
    refine gc_ret ?_
    try simp only [x_then_ret, x_block_ret]
    refine gk_ret1 rfl rfl ?_
    exact ⟨rfl, hS.below⟩
end Go.Proofs.YtpeomdobcobdiaaDoor
