/- The walk of WireBack. No condition. -/
import Derived.Test.YtpeomdobcobdiaaDoorWB
namespace Go.Proofs.YtpeomdobcobdiaaDoor
open Go.RowKit
set_option linter.unusedVariables false
set_option linter.unusedSimpArgs false
theorem wroteF_calls (t : Th) (A : Option Addr) (c : Nat) (w : World) (hU : Tabs w) (hk : -9223372036854775808 ≤ t.k ∧ t.k ≤ 9223372036854775807) (hF : Fit t) {ok : Nat → Prop} (h1 : RdE w ok uB A t.b) :
    Calls Tryd.prog 48 ⟨[thV t A c]⟩ w fun e w' => ∃ A' c', e = .returned (.tuple #[.slice A' (encT (t.k % 4) t).length c', .bool true]) ∧
      Owns w' w.heap.size A' c' 5 1 (encT (t.k % 4) t).length ((encT (t.k % 4) t).map uB) ∧ Below w.heap.size w w' := by
  have h := wrote_calls t A c w hU hk (by have := hF.n1; omega) hF.u0 (by have := hF.s0; omega) h1 (by have := hF.b0; omega)
  rw [wrote_fit _ _ hF] at h
  simp only [decide_true, Bool.true_and, encT_pos] at h
  exact h
theorem wroteB_calls (t : Th) (q : Int) (hq : t.k % 4 = q) (A : Option Addr) (c : Nat) (x : List UInt8) (w : World) (hU : Tabs w) (hk : -9223372036854775808 ≤ t.k ∧ t.k ≤ 9223372036854775807) (hn : t.n ≤ 9223372036854775807) (hu : t.u < 18446744073709551616) (hs : t.s.size ≤ 140737488000000) {ok : Nat → Prop} (h1 : RdE w ok uB A t.b) (hb : t.b.length ≤ 4611686018427387904)
    (hx : wroteV q t = (x, 0)) (h0 : 0 < x.length) :
    Calls Tryd.prog 48 ⟨[thV t A c]⟩ w fun e w' => ∃ A' c', e = .returned (.tuple #[.slice A' x.length c', .bool true]) ∧
      Owns w' w.heap.size A' c' 5 1 x.length (x.map uB) ∧ Below w.heap.size w w' := by
  have h := wrote_calls t A c w hU hk hn hu hs h1 hb
  rw [hq, hx] at h
  simp only [decide_true, Bool.true_and, h0] at h
  exact h
theorem readsN_calls (k : Int) (A : Option Addr) (n c : Nat) (l : List UInt8) (at_ : Int) (w : World) (hU : Tabs w) (hk : -9223372036854775808 ≤ k ∧ k ≤ 9223372036854775807) {ok : Nat → Prop} (h1 : RdE w ok uB A l) (hn : n = l.length) (hb : l.length ≤ 140737488355328) (hc : l.length ≤ c) (hmin : -9223372036854775808 ≤ at_) :
    Calls Tryd.prog 49 ⟨[.int .i64 k, .slice A n c, .int .i64 at_]⟩ w fun e w' => ∃ A' c', e = .returned (.tuple #[thV (readsV (k % 4) l at_).1 A' c', .int .i64 (readsV (k % 4) l at_).2.1, .int .i64 (readsV (k % 4) l at_).2.2]) ∧
      Owns w' w.heap.size A' c' 5 1 (readsV (k % 4) l at_).1.b.length ((readsV (k % 4) l at_).1.b.map uB) ∧ Below w.heap.size w w' := by
  subst hn; exact reads_calls k A c l at_ w hU hk h1 hb hc hmin
theorem alikeT_calls (t1 t2 : Th) (b : Bool) (A1 A2 : Option Addr) (c1 c2 : Nat) (w : World) (hk : -9223372036854775808 ≤ t1.k ∧ t1.k ≤ 9223372036854775807) {ok1 ok2 : Nat → Prop} (h1 : RdE w ok1 uB A1 t1.b) (h2 : RdE w ok2 uB A2 t2.b) (hb : t1.b.length ≤ 9223372036854775807) (h : alikeV (t1.k % 4) t1 t2 = b) :
    Calls Tryd.prog 50 ⟨[thV t1 A1 c1, thV t2 A2 c2]⟩ w fun e w' => e = .returned (.bool b) ∧ Below w.heap.size w w' := by
  subst h; exact alike_calls t1 t2 A1 A2 c1 c2 w hk h1 h2 hb
theorem SameN_calls (A1 A2 : Option Addr) (n1 c1 n2 c2 : Nat) (l1 l2 : List UInt8) (w : World) {ok1 ok2 : Nat → Prop} (h1 : RdE w ok1 uB A1 l1) (h2 : RdE w ok2 uB A2 l2) (e1 : n1 = l1.length) (e2 : n2 = l2.length) (hb : l1.length ≤ 9223372036854775807) :
    Calls Tryd.prog 18 ⟨[.slice A1 n1 c1, .slice A2 n2 c2]⟩ w fun e w' => e = .returned (.bool (decide (l1 = l2))) ∧ Eqv w w' := by
  subst e1; subst e2; exact Same_calls A1 A2 c1 c2 l1 l2 w h1 h2 hb
theorem reads_fit (q : Int) (l : List UInt8) (at_ : Int) (h : (readsV q l at_).2.2 = 0) : (readsV q l at_).1.k = q ∧ (readsV q l at_).1.n ≤ 9223372036854775807 ∧ (readsV q l at_).1.u < 18446744073709551616 ∧ (readsV q l at_).1.s.size ≤ l.length ∧ (readsV q l at_).1.b.length ≤ l.length := by
  unfold readsV th0 at *
  by_cases q0 : q = 0
  · simp only [if_pos q0] at h ⊢
    have := readUV_ok h
    refine ⟨by first | rfl | trivial, by omega, by decide, Nat.zero_le _, Nat.zero_le _⟩
  simp only [if_neg q0] at h ⊢
  by_cases q1 : q = 1
  · simp only [if_pos q1] at h ⊢
    obtain ⟨_, _, _, _, g4, _⟩ := readFloat_back l at_ h
    exact ⟨by first | rfl | trivial, by decide, g4, Nat.zero_le _, Nat.zero_le _⟩
  simp only [if_neg q1] at h ⊢
  by_cases q2 : q = 2
  · simp only [if_pos q2] at h ⊢
    obtain ⟨_, _, _, _, g4, _⟩ := readText_back l at_ _ h
    refine ⟨by first | rfl | trivial, by decide, by decide, ?_, Nat.zero_le _⟩
    unfold textE at g4
    rw [List.length_append, data_len] at g4
    omega
  simp only [if_neg q2] at h ⊢
  obtain ⟨_, _, _, g3, _⟩ := readFrame_back l at_ h
  rw [frameB_len] at g3
  exact ⟨by first | rfl | trivial, by decide, by decide, Nat.zero_le _, by omega⟩
set_option maxRecDepth 100000 in
theorem WireBack_calls (t : Th) (At : Option Addr) (ct : Nat) (Aa : Option Addr) (ca : Nat) (la : List UInt8) (Ab : Option Addr) (cb : Nat) (lb : List UInt8) (A3 : Option Addr) (c3 : Nat) (l3 : List UInt8) (at_ : Int) (w : World) (hU : Tabs w)
    (hk : -9223372036854775808 ≤ t.k ∧ t.k ≤ 9223372036854775807) (hn : -9223372036854775808 ≤ t.n ∧ t.n ≤ 9223372036854775807) (hu : t.u < 18446744073709551616) (hs : t.s.size ≤ 4611686018427387904) {ok0 ok1 ok2 ok3 : Nat → Prop}
    (h0 : RdE w ok0 uB At t.b) (hc0 : t.b.length ≤ ct) (h1 : RdE w ok1 uB Aa la) (hc1 : la.length ≤ ca) (h2 : RdE w ok2 uB Ab lb) (hc2 : lb.length ≤ cb) (h3 : RdE w ok3 uB A3 l3) (hc3 : l3.length ≤ c3) (hat : -9223372036854775808 ≤ at_ ∧ at_ ≤ 9223372036854775807) :
    Calls Tryd.prog 13 ⟨[thV t At ct, .slice Aa la.length ca, .slice Ab lb.length cb, .slice A3 l3.length c3, .int .i64 at_]⟩ w fun e w' => e = .returned (.bool true) ∧ Below w.heap.size w w' := by
  refine gc_enter (N := 122) Tryd.func13 rfl rfl rfl [(0, _), (1, _), (2, _), (3, _), (4, _)] rfl ?_
  have hS := St.start w
  refine gc_seq fun K1 hK1 => ?_
  refine gc_region ?_
  refine gl_box hS rfl rfl rfl rfl rfl fun g5 w5 hS => ?_
  refine gl_op rfl rfl rfl (op_pure hT rfl) ?_
  refine gl_nil ?_
  refine hK1 _ _ ?_
  clear hK1; try clear K1
  refine gc_cut (fun a w' => Fr 122 a [(1, .slice Aa la.length ca), (2, .slice Ab lb.length cb), (3, .slice A3 l3.length c3), (4, .int .i64 at_), (5, .pointer (some ⟨g5, 0, none⟩))] ∧ St w.heap.size w w' [.blk g5 85 (thC (mend t) At ct)]) ?_ ?_
  · skip
    refine gc_region ?_
    refine gl_op rfl rfl rfl (op_loadG 0 Tryd.underlying85 rfl el85 hS rfl rfl rfl rfl rfl) ?_
    refine gl_callf rfl rfl rfl rfl Tryd.func47 rfl rfl rfl (mended_calls t At ct _ (hU.old hS) hn hu hs hc0) ?_
    rintro _ w21 ⟨rfl, hb21⟩
    refine ⟨_, rfl, ?_⟩
    have hS := hS.grown hb21
    refine gl_storeM 0 hS el85 rfl rfl rfl rfl rfl rfl rfl rfl rfl fun woutright_go_93 hS => ?_
    refine gl_nil ?_
    intro a ha; exact ⟨ha.sub ⟨rfl, rfl, rfl, rfl, rfl, trivial⟩, hS⟩
  rintro a w1 ⟨hF, hS⟩
  refine gc_of hF ?_
  clear hF
  have hF := mend_fit t hn hu
  have hk : -9223372036854775808 ≤ (mend t).k ∧ (mend t).k ≤ 9223372036854775807 := hk
  have h0 : RdE w ok0 uB At (mend t).b := h0.take 3000
  generalize mend t = m at hS hF hk h0
  have hf := hF.b0
  have he1 := encT_pos (m.k % 4) m
  have he2 := encT_le (m.k % 4) m hF
  refine gc_seq fun K2 hK2 => ?_
  refine gc_region ?_
  refine gl_op rfl rfl rfl (op_loadG 0 Tryd.underlying85 rfl el85 hS rfl rfl rfl rfl rfl) ?_
  refine gl_callf rfl rfl rfl rfl Tryd.func48 rfl rfl rfl (wroteF_calls m At ct _ (hU.old hS) hk hF (h0.old hS)) ?_
  rintro _ w24 ⟨A24, c24, rfl, hr24, hb24⟩
  refine ⟨_, rfl, ?_⟩
  have hS := hS.addRow hb24 hr24
  refine gl_op rfl rfl rfl (op_pure hT rfl) ?_
  refine gl_op rfl rfl rfl (op_pure hT rfl) ?_
  refine gl_op rfl rfl rfl (op_pure hT rfl) ?_
  refine gl_op rfl rfl rfl (op_pure hT rfl) ?_
  refine gl_op rfl rfl rfl (op_pure hT rfl) ?_
  refine gl_nil ?_
  refine hK2 _ _ ?_
  clear hK2; try clear K2
  refine gc_seq fun K3 hK3 => ?_
  refine gc_seq fun K4 hK4 => ?_
  refine gc_region ?_
  refine gl_op rfl rfl rfl (op_pure hT rfl) ?_
  refine gl_op rfl rfl rfl (op_pure hT rfl) ?_
  refine gl_op rfl rfl rfl (op_pure hT rfl) ?_
  refine gl_un rfl rfl rfl rfl ?_
  refine gl_callf rfl rfl rfl rfl Tryd.func15 rfl rfl rfl (told_calls _ (hU.old hS)) ?_
  rintro _ w30 ⟨rfl, hb30⟩
  refine ⟨_, rfl, ?_⟩
  have hS := hS.grown hb30
  refine gl_un rfl rfl rfl rfl ?_
  refine gl_op rfl rfl rfl (op_pure hT rfl) ?_
  refine gl_op rfl rfl rfl (op_pure hT rfl) ?_
  refine gl_nil ?_
  refine hK4 _ _ ?_
  clear hK4; try clear K4
  refine gc_cond_f rfl ?_
  refine gc_skip ?_
  refine hK3 _ _ ?_
  clear hK3; try clear K3
  refine gc_cut (fun a w' => Fr 122 a [(1, .slice Aa (la.take 200).length ca), (2, .slice Ab lb.length cb), (3, .slice A3 l3.length c3), (4, .int .i64 at_), (5, .pointer (some ⟨g5, 0, none⟩)), (11, .slice A24 (encT (m.k % 4) m).length c24)] ∧ w30 = w') ?_ ?_
  · skip
    refine gc_seq fun K5 hK5 => ?_
    refine gc_region ?_
    refine gl_op rfl rfl rfl (op_pure hT rfl) ?_
    refine gl_op rfl rfl rfl (op_pure hT rfl) ?_
    refine gl_op rfl rfl rfl (op_pure hT rfl) ?_
    refine gl_nil ?_
    refine hK5 _ _ ?_
    clear hK5; try clear K5
    refine gc_cond rfl rfl (fun c35 => ?_) (fun c35 => ?_)
    · try simp only [decide_eq_true_eq, decide_eq_false_iff_not, Bool.not_eq_true', Bool.not_eq_false', Int.not_lt, Int.not_le, Nat.not_lt, Nat.not_le, Bool.true_eq, Bool.false_eq, reduceCtorEq] at c35
      refine gc_region ?_
      refine gl_op rfl rfl rfl (op_pure hT rfl) ?_
      refine gl_op rfl rfl rfl (op_slice_h hT el5 rfl rfl rfl rfl (by first | omega | (simp; omega)) (by first | omega | (simp; omega))) ?_
      refine gl_op rfl rfl rfl (op_pure hT rfl) ?_
      refine gl_nil ?_
      intro a ha
      refine ⟨ha.sub ⟨?_, rfl, rfl, rfl, rfl, rfl, trivial⟩, rfl⟩
      first
        | (show some (Value.slice Aa (200 : Int).toNat ca) = _; rw [List.length_take, Nat.min_eq_left (by omega)]; rfl)
        | (show some (Value.slice Aa la.length ca) = _; rw [List.length_take, Nat.min_eq_right (by omega)])
    · try simp only [decide_eq_true_eq, decide_eq_false_iff_not, Bool.not_eq_true', Bool.not_eq_false', Int.not_lt, Int.not_le, Nat.not_lt, Nat.not_le, Bool.true_eq, Bool.false_eq, reduceCtorEq] at c35
      refine gc_skip ?_
      intro a ha
      refine ⟨ha.sub ⟨?_, rfl, rfl, rfl, rfl, rfl, trivial⟩, rfl⟩
      first
        | (show some (Value.slice Aa (200 : Int).toNat ca) = _; rw [List.length_take, Nat.min_eq_left (by omega)]; rfl)
        | (show some (Value.slice Aa la.length ca) = _; rw [List.length_take, Nat.min_eq_right (by omega)])
  rintro a _ ⟨hF2, rfl⟩
  refine gc_of hF2 ?_
  clear hF2
  have h1 := h1.take 200
  have hla : (la.take 200).length ≤ 200 := by simp; omega
  generalize la.take 200 = la at h1 hla ⊢
  refine gc_cut (fun a w' => Fr 122 a [(1, .slice Aa la.length ca), (2, .slice Ab (lb.take 200).length cb), (3, .slice A3 l3.length c3), (4, .int .i64 at_), (5, .pointer (some ⟨g5, 0, none⟩)), (11, .slice A24 (encT (m.k % 4) m).length c24)] ∧ w30 = w') ?_ ?_
  · skip
    refine gc_seq fun K6 hK6 => ?_
    refine gc_region ?_
    refine gl_op rfl rfl rfl (op_pure hT rfl) ?_
    refine gl_op rfl rfl rfl (op_pure hT rfl) ?_
    refine gl_op rfl rfl rfl (op_pure hT rfl) ?_
    refine gl_nil ?_
    refine hK6 _ _ ?_
    clear hK6; try clear K6
    refine gc_cond rfl rfl (fun c40 => ?_) (fun c40 => ?_)
    · try simp only [decide_eq_true_eq, decide_eq_false_iff_not, Bool.not_eq_true', Bool.not_eq_false', Int.not_lt, Int.not_le, Nat.not_lt, Nat.not_le, Bool.true_eq, Bool.false_eq, reduceCtorEq] at c40
      refine gc_region ?_
      refine gl_op rfl rfl rfl (op_pure hT rfl) ?_
      refine gl_op rfl rfl rfl (op_slice_h hT el5 rfl rfl rfl rfl (by first | omega | (simp; omega)) (by first | omega | (simp; omega))) ?_
      refine gl_op rfl rfl rfl (op_pure hT rfl) ?_
      refine gl_nil ?_
      intro a ha
      refine ⟨ha.sub ⟨rfl, ?_, rfl, rfl, rfl, rfl, trivial⟩, rfl⟩
      first
        | (show some (Value.slice Ab (200 : Int).toNat cb) = _; rw [List.length_take, Nat.min_eq_left (by omega)]; rfl)
        | (show some (Value.slice Ab lb.length cb) = _; rw [List.length_take, Nat.min_eq_right (by omega)])
    · try simp only [decide_eq_true_eq, decide_eq_false_iff_not, Bool.not_eq_true', Bool.not_eq_false', Int.not_lt, Int.not_le, Nat.not_lt, Nat.not_le, Bool.true_eq, Bool.false_eq, reduceCtorEq] at c40
      refine gc_skip ?_
      intro a ha
      refine ⟨ha.sub ⟨rfl, ?_, rfl, rfl, rfl, rfl, trivial⟩, rfl⟩
      first
        | (show some (Value.slice Ab (200 : Int).toNat cb) = _; rw [List.length_take, Nat.min_eq_left (by omega)]; rfl)
        | (show some (Value.slice Ab lb.length cb) = _; rw [List.length_take, Nat.min_eq_right (by omega)])
  rintro a _ ⟨hF2, rfl⟩
  refine gc_of hF2 ?_
  clear hF2
  have h2 := h2.take 200
  have hlb : (lb.take 200).length ≤ 200 := by simp; omega
  generalize lb.take 200 = lb at h2 hlb ⊢
  refine gc_cut (fun a w' => ∃ A13 c13, Fr 122 a [(1, .slice Aa la.length ca), (3, .slice A3 l3.length c3), (4, .int .i64 at_), (5, .pointer (some ⟨g5, 0, none⟩)), (11, .slice A24 (encT (m.k % 4) m).length c24), (13, .slice A13 (la.length + (encT (m.k % 4) m).length + lb.length) c13)] ∧
  St w.heap.size w w' [.blk g5 85 (thC m At ct), .row A24 c24 5 1 (encT (m.k % 4) m).length ((encT (m.k % 4) m).map uB), .row A13 c13 5 1 (la.length + (encT (m.k % 4) m).length + lb.length) ((la ++ encT (m.k % 4) m ++ lb).map uB)]) ?_ ?_
  · skip
    refine gc_region ?_
    refine gl_op rfl rfl rfl (op_pure hT rfl) ?_
    refine gl_append0 hT hS el5 (h1.old hS) (allOne_uB _) rfl rfl rfl rfl rfl rfl rfl (by first | omega | (simp; omega)) (by first | omega | (simp; omega)) fun A44 c44 w44 hS => ?_
    refine gl_op rfl rfl rfl (op_pure hT rfl) ?_
    refine gl_append 2 hT hS el5 (hS.rd (i := 1) rfl) (allOne_uB _) rfl rfl rfl rfl rfl rfl rfl rfl (by first | omega | (simp; omega)) (by first | omega | (simp; omega)) fun A46 c46 w46 hS => ?_
    refine gl_op rfl rfl rfl (op_pure hT rfl) ?_
    refine gl_append 2 hT hS el5 (h2.old hS) (allOne_uB _) rfl rfl rfl rfl rfl rfl rfl rfl (by first | omega | (simp; omega)) (by first | omega | (simp; omega)) fun A48 c48 w48 hS => ?_
    refine gl_op rfl rfl rfl (op_pure hT rfl) ?_
    refine gl_nil ?_
    intro a ha
    refine ⟨A48, c48, ha.sub ⟨rfl, rfl, rfl, rfl, rfl, rfl, trivial⟩, ?_⟩
    rw [List.map_append, List.map_append]; exact hS
  rintro a w2 ⟨A13, c13, hF2, hS⟩
  refine gc_of hF2 ?_
  clear hF2
  have hcap := (hS.cap (i := 2) rfl).1
  have hL : (la ++ encT (m.k % 4) m ++ lb).length = la.length + (encT (m.k % 4) m).length + lb.length := by simp only [List.length_append]
  obtain ⟨x, hx1, hx2⟩ := reads_enc (m.k % 4) m hF la lb
  refine gc_seq fun K7 hK7 => ?_
  refine gc_region ?_
  refine gl_op rfl rfl rfl (op_fieldB 0 rfl Tryd.underlying85 rfl el3 rfl rfl) ?_
  refine gl_op rfl rfl rfl (op_loadB 0 hT hS rfl rfl rfl rfl rfl rfl) ?_
  refine gl_op rfl rfl rfl (op_pure hT rfl) ?_
  refine gl_op rfl rfl rfl (op_pure hT rfl) ?_
  refine gl_op rfl rfl rfl (op_pure hT rfl) ?_
  refine gl_callf rfl rfl rfl rfl Tryd.func49 rfl rfl rfl (readsN_calls m.k A13 _ c13 (la ++ encT (m.k % 4) m ++ lb) (la.length : Nat) _ (hU.old hS) hk (hS.rdE (i := 2) rfl) hL.symm (by omega) (by omega) (by omega)) ?_
  rw [hx1]
  rintro _ w55 ⟨A55, c55, rfl, hr55, hb55⟩
  refine ⟨_, rfl, ?_⟩
  have hS := hS.addRow hb55 hr55
  refine gl_op rfl rfl rfl (op_pure hT rfl) ?_
  refine gl_op rfl rfl rfl (op_pure hT rfl) ?_
  refine gl_op rfl rfl rfl (op_pure hT rfl) ?_
  refine gl_op rfl rfl rfl (op_pure hT rfl) ?_
  refine gl_alloc el85 hS rfl rfl rfl rfl fun g14 w14 hS => ?_
  refine gl_storeM 4 hS el85 rfl rfl rfl rfl rfl rfl rfl rfl rfl fun woutright_go_105 hS => ?_
  refine gl_op rfl rfl rfl (op_pure hT rfl) ?_
  refine gl_op rfl rfl rfl (op_pure hT rfl) ?_
  refine gl_nil ?_
  refine hK7 _ _ ?_
  clear hK7; try clear K7
  refine gc_seq fun K8 hK8 => ?_
  refine gc_seq fun K9 hK9 => ?_
  refine gc_region ?_
  refine gl_op rfl rfl rfl (op_pure hT rfl) ?_
  refine gl_op rfl rfl rfl (op_pure hT rfl) ?_
  refine gl_op rfl rfl rfl (op_pure hT rfl) ?_
  refine gl_un rfl rfl rfl rfl ?_
  refine gl_op rfl rfl rfl (op_pure hT rfl) ?_
  refine gl_un rfl rfl rfl rfl ?_
  refine gl_op rfl rfl rfl (op_pure hT rfl) ?_
  refine gl_un rfl rfl rfl rfl ?_
  refine gl_op rfl rfl rfl (op_pure hT rfl) ?_
  refine gl_un rfl rfl rfl rfl ?_
  refine gl_op rfl rfl rfl (op_pure hT rfl) ?_
  refine gl_un rfl rfl rfl rfl ?_
  refine gl_op rfl rfl rfl (op_pure hT rfl) ?_
  refine gl_un rfl rfl rfl rfl ?_
  first | refine gl_fit hT rfl rfl rfl rfl (by omega) ?_ | refine gl_op rfl rfl rfl (op_pure hT rfl) ?_
  refine gl_un rfl rfl rfl rfl ?_
  refine gl_op rfl rfl rfl (op_pure hT rfl) ?_
  refine gl_spell 68 (v := .bool false) rfl (by rw [decide_eq_true (by push_cast; omega)]; rfl) ?_
  refine gl_op rfl rfl rfl (op_pure hT rfl) ?_
  refine gl_op rfl rfl rfl (op_pure hT rfl) ?_
  refine gl_un rfl rfl rfl rfl ?_
  refine gl_op rfl rfl rfl (op_loadG 0 Tryd.underlying85 rfl el85 hS rfl rfl rfl rfl rfl) ?_
  refine gl_un rfl rfl rfl rfl ?_
  refine gl_op rfl rfl rfl (op_loadG 4 Tryd.underlying85 rfl el85 hS rfl rfl rfl rfl rfl) ?_
  refine gl_un rfl rfl rfl rfl ?_
  refine gl_callf rfl rfl rfl rfl Tryd.func50 rfl rfl rfl (alikeT_calls m x true At A55 ct c55 _ hk (h0.old hS) (hS.rdE (i := 3) rfl) (by omega) hx2) ?_
  rintro _ w73 ⟨rfl, hb73⟩
  refine ⟨_, rfl, ?_⟩
  have hS := hS.grown hb73
  refine gl_un rfl rfl rfl rfl ?_
  refine gl_op rfl rfl rfl (op_pure hT rfl) ?_
  refine gl_op rfl rfl rfl (op_pure hT rfl) ?_
  refine gl_nil ?_
  refine hK9 _ _ ?_
  clear hK9; try clear K9
  refine gc_cond_f rfl ?_
  refine gc_skip ?_
  refine hK8 _ _ ?_
  clear hK8; try clear K8
  refine gc_cut (fun a w' => Fr 122 a [(3, .slice A3 (l3.take 4000).length c3), (4, .int .i64 at_), (5, .pointer (some ⟨g5, 0, none⟩))] ∧ w73 = w') ?_ ?_
  · skip
    refine gc_seq fun K10 hK10 => ?_
    refine gc_region ?_
    refine gl_op rfl rfl rfl (op_pure hT rfl) ?_
    refine gl_op rfl rfl rfl (op_pure hT rfl) ?_
    refine gl_op rfl rfl rfl (op_pure hT rfl) ?_
    refine gl_nil ?_
    refine hK10 _ _ ?_
    clear hK10; try clear K10
    refine gc_cond rfl rfl (fun c78 => ?_) (fun c78 => ?_)
    · try simp only [decide_eq_true_eq, decide_eq_false_iff_not, Bool.not_eq_true', Bool.not_eq_false', Int.not_lt, Int.not_le, Nat.not_lt, Nat.not_le, Bool.true_eq, Bool.false_eq, reduceCtorEq] at c78
      refine gc_region ?_
      refine gl_op rfl rfl rfl (op_pure hT rfl) ?_
      refine gl_op rfl rfl rfl (op_slice_h hT el5 rfl rfl rfl rfl (by first | omega | (simp; omega)) (by first | omega | (simp; omega))) ?_
      refine gl_op rfl rfl rfl (op_pure hT rfl) ?_
      refine gl_nil ?_
      intro a ha
      refine ⟨ha.sub ⟨?_, rfl, rfl, trivial⟩, rfl⟩
      first
        | (show some (Value.slice A3 (4000 : Int).toNat c3) = _; rw [List.length_take, Nat.min_eq_left (by omega)]; rfl)
        | (show some (Value.slice A3 l3.length c3) = _; rw [List.length_take, Nat.min_eq_right (by omega)])
    · try simp only [decide_eq_true_eq, decide_eq_false_iff_not, Bool.not_eq_true', Bool.not_eq_false', Int.not_lt, Int.not_le, Nat.not_lt, Nat.not_le, Bool.true_eq, Bool.false_eq, reduceCtorEq] at c78
      refine gc_skip ?_
      intro a ha
      refine ⟨ha.sub ⟨?_, rfl, rfl, trivial⟩, rfl⟩
      first
        | (show some (Value.slice A3 (4000 : Int).toNat c3) = _; rw [List.length_take, Nat.min_eq_left (by omega)]; rfl)
        | (show some (Value.slice A3 l3.length c3) = _; rw [List.length_take, Nat.min_eq_right (by omega)])
  rintro a _ ⟨hF2, rfl⟩
  refine gc_of hF2 ?_
  clear hF2
  have h3 := h3.take 4000
  have hl3 : (l3.take 4000).length ≤ 4000 := by simp; omega
  have hc3 : (l3.take 4000).length ≤ c3 := by simp; omega
  generalize l3.take 4000 = l3 at h3 hl3 hc3 ⊢
  have hS : St w.heap.size w w73 [.blk g5 85 (thC m At ct)] := hS.pre 1
  refine gc_seq fun K11 hK11 => ?_
  refine gc_region ?_
  refine gl_op rfl rfl rfl (op_pure hT rfl) ?_
  refine gl_op rfl rfl rfl (op_pure hT rfl) ?_
  refine gl_op rfl rfl rfl (op_pure hT rfl) ?_
  first | refine gl_fit hT rfl rfl rfl rfl (by omega) ?_ | refine gl_op rfl rfl rfl (op_pure hT rfl) ?_
  refine gl_callf rfl rfl rfl rfl Tryd.func26 rfl rfl rfl (Spot_calls at_ _ hat ⟨by omega, by omega⟩ _) ?_
  rintro _ _ ⟨rfl, rfl⟩
  refine ⟨_, rfl, ?_⟩
  rw [if_neg (by omega)]
  have hr0 := Int.emod_nonneg at_ (show ((l3.length : Nat) + 1 : Int) ≠ 0 by omega)
  have hr1 := Int.emod_lt_of_pos at_ (show (0 : Int) < ((l3.length : Nat) + 1 : Int) by omega)
  generalize at_ % ((l3.length : Nat) + 1 : Int) = p0 at hr0 hr1 ⊢
  refine gl_op rfl rfl rfl (op_pure hT rfl) ?_
  refine gl_nil ?_
  refine hK11 _ _ ?_
  clear hK11; try clear K11
  refine gc_seq fun K12 hK12 => ?_
  refine gc_region ?_
  refine gl_op rfl rfl rfl (op_fieldB 0 rfl Tryd.underlying85 rfl el3 rfl rfl) ?_
  refine gl_op rfl rfl rfl (op_loadB 0 hT hS rfl rfl rfl rfl rfl rfl) ?_
  refine gl_op rfl rfl rfl (op_pure hT rfl) ?_
  refine gl_op rfl rfl rfl (op_pure hT rfl) ?_
  refine gl_callf rfl rfl rfl rfl Tryd.func49 rfl rfl rfl (readsN_calls m.k A3 _ c3 l3 p0 _ (hU.old hS) hk (h3.old hS) rfl (by omega) hc3 (by omega)) ?_
  rintro _ w91 ⟨A91, c91, rfl, hr91, hb91⟩
  refine ⟨_, rfl, ?_⟩
  have hS := hS.addRow hb91 hr91
  refine gl_op rfl rfl rfl (op_pure hT rfl) ?_
  refine gl_op rfl rfl rfl (op_pure hT rfl) ?_
  refine gl_op rfl rfl rfl (op_pure hT rfl) ?_
  refine gl_op rfl rfl rfl (op_pure hT rfl) ?_
  refine gl_alloc el85 hS rfl rfl rfl rfl fun g17 w17 hS => ?_
  refine gl_storeM 2 hS el85 rfl rfl rfl rfl rfl rfl rfl rfl rfl fun woutright_go_113 hS => ?_
  refine gl_op rfl rfl rfl (op_pure hT rfl) ?_
  refine gl_op rfl rfl rfl (op_pure hT rfl) ?_
  refine gl_nil ?_
  refine hK12 _ _ ?_
  clear hK12; try clear K12
  refine gc_seq fun K13 hK13 => ?_
  refine gc_seq fun K14 hK14 => ?_
  refine gc_region ?_
  refine gl_op rfl rfl rfl (op_pure hT rfl) ?_
  refine gl_op rfl rfl rfl (op_pure hT rfl) ?_
  refine gl_nil ?_
  refine hK14 _ _ ?_
  clear hK14; try clear K14
  refine gc_cond rfl rfl (fun c96 => ?_) (fun c96 => ?_)
  · try simp only [decide_eq_true_eq, decide_eq_false_iff_not, Bool.not_eq_true', Bool.not_eq_false', Int.not_lt, Int.not_le, Nat.not_lt, Nat.not_le, Bool.true_eq, Bool.false_eq, reduceCtorEq] at c96
    refine gc_seq fun K15 hK15 => ?_
    refine gc_region ?_
    refine gl_op rfl rfl rfl (op_pure hT rfl) ?_
    refine gl_nil ?_
    refine hK15 _ _ ?_
    clear hK15; try clear K15
    refine gc_ret ?_
    try simp only [x_then_ret, x_block_ret]
    refine gk_ret1 rfl rfl ?_
    exact ⟨rfl, hS.below⟩
  · try simp only [decide_eq_true_eq, decide_eq_false_iff_not, Bool.not_eq_true', Bool.not_eq_false', Int.not_lt, Int.not_le, Nat.not_lt, Nat.not_le, Bool.true_eq, Bool.false_eq, reduceCtorEq] at c96
    obtain ⟨hp0, z, hz1, hz2, hz3, hz4, hz5⟩ := reads_back (m.k % 4) l3 p0 (by omega)
    obtain ⟨hy1, hy2, hy3, hy4, hy5⟩ := reads_fit (m.k % 4) l3 p0 (by omega)
    generalize readsV (m.k % 4) l3 p0 = Y at hS hz1 hz3 hy1 hy2 hy3 hy4 hy5 c96 ⊢
    refine gc_skip ?_
    refine hK13 _ _ ?_
    clear hK13; try clear K13
    refine gc_seq fun K16 hK16 => ?_
    refine gc_region ?_
    refine gl_op rfl rfl rfl (op_loadG 2 Tryd.underlying85 rfl el85 hS rfl rfl rfl rfl rfl) ?_
    refine gl_callf rfl rfl rfl rfl Tryd.func48 rfl rfl rfl (wroteB_calls Y.1 (m.k % 4) (by omega) A91 c91 z _ (hU.old hS) (by omega) hy2 hy3 (by omega) (hS.rdE (i := 1) rfl) (by omega) hz1 hz2) ?_
    rintro _ w99 ⟨A99, c99, rfl, hr99, hb99⟩
    refine ⟨_, rfl, ?_⟩
    have hS := hS.addRow hb99 hr99
    refine gl_op rfl rfl rfl (op_pure hT rfl) ?_
    refine gl_op rfl rfl rfl (op_pure hT rfl) ?_
    refine gl_op rfl rfl rfl (op_pure hT rfl) ?_
    refine gl_op rfl rfl rfl (op_pure hT rfl) ?_
    refine gl_op rfl rfl rfl (op_pure hT rfl) ?_
    refine gl_nil ?_
    refine hK16 _ _ ?_
    clear hK16; try clear K16
    refine gc_seq fun K17 hK17 => ?_
    refine gc_region ?_
    refine gl_op rfl rfl rfl (op_pure hT rfl) ?_
    refine gl_op rfl rfl rfl (op_pure hT rfl) ?_
    refine gl_un rfl rfl rfl rfl ?_
    refine gl_op rfl rfl rfl (op_pure hT rfl) ?_
    refine gl_un rfl rfl rfl rfl ?_
    refine gl_op rfl rfl rfl (op_pure hT rfl) ?_
    refine gl_un rfl rfl rfl rfl ?_
    refine gl_op rfl rfl rfl (op_pure hT rfl) ?_
    refine gl_spell 106 (v := .bool true) rfl (by rw [decide_eq_true (by omega)]) ?_
    refine gl_op rfl rfl rfl (op_pure hT rfl) ?_
    refine gl_op rfl rfl rfl (op_pure hT rfl) ?_
    refine gl_un rfl rfl rfl rfl ?_
    refine gl_op rfl rfl rfl (op_pure hT rfl) ?_
    refine gl_un rfl rfl rfl rfl ?_
    refine gl_op rfl rfl rfl (op_pure hT rfl) ?_
    refine gl_un rfl rfl rfl rfl ?_
    refine gl_op rfl rfl rfl (op_pure hT rfl) ?_
    refine gl_un rfl rfl rfl rfl ?_
    refine gl_op rfl rfl rfl (op_pure hT rfl) ?_
    refine gl_spell 112 (v := .bool true) rfl (by rw [decide_eq_true (by omega)]) ?_
    refine gl_op rfl rfl rfl (op_pure hT rfl) ?_
    refine gl_op rfl rfl rfl (op_pure hT rfl) ?_
    refine gl_un rfl rfl rfl rfl ?_
    refine gl_op rfl rfl rfl (op_pure hT rfl) ?_
    refine gl_un rfl rfl rfl rfl ?_
    refine gl_op rfl rfl rfl (op_pure hT rfl) ?_
    refine gl_un rfl rfl rfl rfl ?_
    refine gl_op rfl rfl rfl (op_pure hT rfl) ?_
    refine gl_un rfl rfl rfl rfl ?_
    refine gl_op rfl rfl rfl (op_pure hT rfl) ?_
    refine gl_un rfl rfl rfl rfl ?_
    refine gl_op rfl rfl rfl (op_slice_lh hT el5 rfl rfl rfl rfl rfl (by first | omega | (simp; omega)) (by first | omega | (simp; omega)) (by first | omega | (simp; omega))) ?_
    refine gl_un rfl rfl rfl rfl ?_
    have hr3 := (RdE.drop (h3.old hS) (k := p0.toNat) (cap := c3) (by omega) (by omega)).take z.length
    rw [hz5] at hr3
    refine gl_callf rfl rfl rfl rfl Tryd.func18 rfl rfl rfl (SameN_calls _ _ _ _ _ _ z z _ (hS.rdE (i := 3) rfl) hr3 rfl (by omega) (by omega)) ?_
    rintro _ _ ⟨rfl, n120, rfl⟩
    refine ⟨_, rfl, ?_⟩
    have hS := hS.dr n120
    refine gl_spell 120 (v := .bool true) rfl (by simp) ?_
    refine gl_op rfl rfl rfl (op_pure hT rfl) ?_
    refine gl_op rfl rfl rfl (op_pure hT rfl) ?_
    refine gl_nil ?_
    refine hK17 _ _ ?_
    clear hK17; try clear K17
    refine gc_ret ?_
    try simp only [x_then_ret, x_block_ret]
    refine gk_ret1 rfl rfl ?_
    exact ⟨rfl, hS.below⟩
end Go.Proofs.YtpeomdobcobdiaaDoor
