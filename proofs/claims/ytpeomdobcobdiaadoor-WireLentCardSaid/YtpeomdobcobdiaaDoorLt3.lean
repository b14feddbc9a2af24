/- The contract of ambitlaw1.WireLent. No condition. -/
import Derived.Test.YtpeomdobcobdiaaDoorLt2
namespace Go.Proofs.YtpeomdobcobdiaaDoor
open Go.RowKit
set_option linter.unusedVariables false
set_option linter.unusedSimpArgs false
def dd (D : List (List UInt8)) (i : Nat) : List (List UInt8) := (List.replicate i D).flatten
theorem dd_succ (D : List (List UInt8)) (i : Nat) : dd D (i + 1) = dd D i ++ D := by unfold dd; rw [List.replicate_succ', List.flatten_append]; simp
theorem dd_mem {D : List (List UInt8)} {i : Nat} {d : List UInt8} (h : d ∈ dd D i) : d ∈ D := by
  unfold dd at h
  rw [List.mem_flatten] at h
  obtain ⟨l, hl, hd⟩ := h
  rw [List.eq_of_mem_replicate hl] at hd
  exact hd
theorem dd_len (D : List (List UInt8)) (i : Nat) : (dd D i).length = D.length * i := by unfold dd; simp [Nat.mul_comm]
theorem snoc5 {α : Type} (l : List α) (a b c d e : α) : l ++ [a] ++ [b] ++ [c] ++ [d] ++ [e] = l ++ [a, b, c, d, e] := by simp
theorem StD.keep {B : Nat} {w0 w wk : World} {L : List It} {K : Nat → Prop} {SA : List Sl} {DA : List (List UInt8)} (hs : StD B wk K SA DA) (h : St B w0 w L) {i : Nat} (hi : L[i]? = some (.keep K wk)) : StD B w K SA DA := by
  have hkk := h.at hi
  exact ⟨hs.len, fun j x d hx hd => ⟨(hs.ok j x d hx hd).1, (hs.ok j x d hx hd).2.1.kept fun a ha => (hkk a.block ((hs.ok j x d hx hd).2.2 _ ⟨a, ha, rfl⟩)).2.2.2, (hs.ok j x d hx hd).2.2⟩, hs.apart⟩
theorem ex_str (s : ByteArray) (h : 4000 < s.size) : (s.extract 0 4000).size = 4000 := by rw [ByteArray.size_extract]; omega
set_option maxHeartbeats 16000000 in
set_option maxRecDepth 100000 in
theorem WireLent_calls (n : Int) (u : Nat) (s : ByteArray) (A : Option Addr) (c : Nat) (l : List UInt8) (w : World) (hU : Tabs w) (hn : n ≤ 9223372036854775807) (hu : u < 18446744073709551616) {ok : Nat → Prop} (h1 : RdE w ok uB A l) (hc : l.length ≤ c) :
    Calls Tryd.prog 12 ⟨[.int .i64 n, .int .u64 (u : Nat), .string s, .slice A l.length c]⟩ w fun e w' => e = .returned (.bool true) ∧ Below w.heap.size w w' := by
  have hm : (l.take 4000).length ≤ 4000 := by rw [List.length_take]; omega
  have h1b := h1.take 4000
  refine gc_enter (N := 160) Tryd.func12 rfl rfl rfl [(0, _), (1, _), (2, _), (3, _)] rfl ?_
  have hS := St.start w
  refine gc_seq fun K1 hK1 => ?_
  refine gc_region ?_
  refine gl_op rfl rfl rfl (op_pure hT rfl) ?_
  refine gl_nil ?_
  refine hK1 _ _ ?_
  clear hK1; try clear K1
  refine gc_seq fun K2 hK2 => ?_
  refine gc_seq fun K3 hK3 => ?_
  refine gc_region ?_
  refine gl_callf rfl rfl rfl rfl Tryd.func15 rfl rfl rfl (told_calls _ hU) ?_
  rintro _ w36 ⟨rfl, hb36⟩
  refine ⟨_, rfl, ?_⟩
  have hS := hS.grown hb36
  refine gl_op rfl rfl rfl (op_pure hT rfl) ?_
  refine gl_nil ?_
  refine hK3 _ _ ?_
  clear hK3; try clear K3
  refine gc_cond_f rfl ?_
  refine gc_skip ?_
  refine hK2 _ _ ?_
  clear hK2; try clear K2
  refine gc_cut (fun a w' => Fr 160 a [(0, .int .i64 n), (1, .int .u64 (u : Nat)), (2, .string s), (3, .slice A (l.take 4000).length c)] ∧ St w.heap.size w w' []) ?_ ?_
  · skip
    refine gc_seq fun K4 hK4 => ?_
    refine gc_region ?_
    refine gl_op rfl rfl rfl (op_pure hT rfl) ?_
    refine gl_op rfl rfl rfl (op_pure hT rfl) ?_
    refine gl_op rfl rfl rfl (op_pure hT rfl) ?_
    refine gl_nil ?_
    refine hK4 _ _ ?_
    clear hK4; try clear K4
    refine gc_cond rfl rfl (fun c40 => ?_) (fun c40 => ?_)
    · try simp only [decide_eq_true_eq, decide_eq_false_iff_not, Bool.not_eq_true', Bool.not_eq_false', Int.not_lt, Int.not_le, Nat.not_lt, Nat.not_le, Bool.true_eq, Bool.false_eq, reduceCtorEq] at c40
      refine gc_region ?_
      refine gl_op rfl rfl rfl (op_pure hT rfl) ?_
      refine gl_op rfl rfl rfl (op_slice_h hT el5 rfl rfl rfl rfl (by first | omega | (simp; omega)) (by first | omega | (simp; omega))) ?_
      refine gl_op rfl rfl rfl (op_pure hT rfl) ?_
      refine gl_nil ?_
      intro a ha
      first
        | exact ⟨ha.sub ⟨rfl, rfl, rfl, by rw [show (l.take 4000).length = 4000 by rw [List.length_take]; omega]; rfl, trivial⟩, hS⟩
        | exact ⟨ha.sub ⟨rfl, rfl, rfl, by rw [List.take_of_length_le (by omega)]; rfl, trivial⟩, hS⟩
    · try simp only [decide_eq_true_eq, decide_eq_false_iff_not, Bool.not_eq_true', Bool.not_eq_false', Int.not_lt, Int.not_le, Nat.not_lt, Nat.not_le, Bool.true_eq, Bool.false_eq, reduceCtorEq] at c40
      refine gc_skip ?_
      intro a ha
      first
        | exact ⟨ha.sub ⟨rfl, rfl, rfl, by rw [show (l.take 4000).length = 4000 by rw [List.length_take]; omega]; rfl, trivial⟩, hS⟩
        | exact ⟨ha.sub ⟨rfl, rfl, rfl, by rw [List.take_of_length_le (by omega)]; rfl, trivial⟩, hS⟩
  rintro a w1 ⟨hF, hS⟩
  refine gc_of hF ?_
  clear hF
  obtain ⟨bl, hbl⟩ : ∃ bl, bl = l.take 4000 := ⟨_, rfl⟩
  rw [← hbl] at hm h1b ⊢
  refine gc_cut (fun a w' => ∃ s2 : ByteArray, Fr 160 a [(0, .int .i64 n), (1, .int .u64 (u : Nat)), (2, .string s2), (3, .slice A bl.length c)] ∧ s2.size ≤ 4000 ∧ St w.heap.size w w' []) ?_ ?_
  · skip
    refine gc_seq fun K5 hK5 => ?_
    refine gc_region ?_
    refine gl_op rfl rfl rfl (op_pure hT rfl) ?_
    refine gl_op rfl rfl rfl (op_pure hT rfl) ?_
    refine gl_op rfl rfl rfl (op_pure hT rfl) ?_
    refine gl_nil ?_
    refine hK5 _ _ ?_
    clear hK5; try clear K5
    refine gc_cond rfl rfl (fun c45 => ?_) (fun c45 => ?_)
    · try simp only [decide_eq_true_eq, decide_eq_false_iff_not, Bool.not_eq_true', Bool.not_eq_false', Int.not_lt, Int.not_le, Nat.not_lt, Nat.not_le, Bool.true_eq, Bool.false_eq, reduceCtorEq] at c45
      refine gc_region ?_
      refine gl_op rfl rfl rfl (op_pure hT rfl) ?_
      refine gl_op rfl rfl rfl (op_str_h hT rfl rfl rfl rfl (by first | omega | (simp; omega)) (by first | omega | (simp; omega))) ?_
      refine gl_op rfl rfl rfl (op_pure hT rfl) ?_
      refine gl_nil ?_
      intro a ha
      first
        | exact ⟨s.extract 0 4000, ha.sub ⟨rfl, rfl, rfl, rfl, trivial⟩, by rw [ex_str s (by omega)]; exact Nat.le_refl _, hS⟩
        | exact ⟨s, ha.sub ⟨rfl, rfl, rfl, rfl, trivial⟩, by omega, hS⟩
    · try simp only [decide_eq_true_eq, decide_eq_false_iff_not, Bool.not_eq_true', Bool.not_eq_false', Int.not_lt, Int.not_le, Nat.not_lt, Nat.not_le, Bool.true_eq, Bool.false_eq, reduceCtorEq] at c45
      refine gc_skip ?_
      intro a ha
      first
        | exact ⟨s.extract 0 4000, ha.sub ⟨rfl, rfl, rfl, rfl, trivial⟩, by rw [ex_str s (by omega)]; exact Nat.le_refl _, hS⟩
        | exact ⟨s, ha.sub ⟨rfl, rfl, rfl, rfl, trivial⟩, by omega, hS⟩
  rintro a w1 ⟨s2, hF, hs2, hS⟩
  refine gc_of hF ?_
  clear hF
  obtain ⟨D, hD⟩ : ∃ D, D = D5 n u s2 bl := ⟨_, rfl⟩
  have hDb : ∀ d ∈ D, d.length ≤ 10000 := by rw [hD]; exact D5_bd hn hs2 hm
  have hDl : D.length = 5 := by rw [hD]; rfl
  refine gc_seq fun K6 hK6 => ?_
  refine gc_region ?_
  refine gl_op rfl rfl rfl (op_pure hT rfl) ?_
  refine gl_callf rfl rfl rfl rfl Tryd.func41 rfl rfl rfl (rFrameS_calls A _ c bl _ (h1b.old hS) rfl (by omega)) ?_
  rintro _ w50 ⟨Afr, cfr, rfl, hr50, hb50⟩
  refine ⟨_, rfl, ?_⟩
  have hS := hS.addRow hb50 hr50
  have hcfr := hr50.cap.1
  refine gl_op rfl rfl rfl (op_pure hT rfl) ?_
  refine gl_op rfl rfl rfl (op_pure hT rfl) ?_
  refine gl_op rfl rfl rfl (op_pure hT rfl) ?_
  refine gl_op rfl rfl rfl (op_pure hT rfl) ?_
  refine gl_op rfl rfl rfl (op_pure hT rfl) ?_
  refine gl_nil ?_
  refine hK6 _ _ ?_
  clear hK6; try clear K6
  refine gc_seq fun K7 hK7 => ?_
  refine gc_region ?_
  refine gl_op rfl rfl rfl (op_pure hT rfl) ?_
  refine gl_op rfl rfl rfl (op_pure hT rfl) ?_
  refine gl_nil ?_
  refine hK7 _ _ ?_
  clear hK7; try clear K7
  refine gc_seq fun K8 hK8 => ?_
  refine gc_seq fun K9 hK9 => ?_
  refine gc_region ?_
  refine gl_op rfl rfl rfl (op_pure hT rfl) ?_
  refine gl_nil ?_
  refine hK9 _ _ ?_
  clear hK9; try clear K9
  refine gc_block ?_
  have hS : St w.heap.size w _ [.row Afr cfr 5 1 (frameB bl).length ((frameB bl).map uB)] := hS
  have hfr0 := rdE_of (hS.rowRd (i := 0) rfl (ok := fun b => ∃ it ∈ [It.row Afr cfr 5 1 (frameB bl).length ((frameB bl).map uB)], it.fp b) fun b hb => ⟨_, by simp, hb⟩) rfl
  have hS := (((hS.keepAll.nil 22 1).nil 22 1).keep0).permB (List.Perm.trans (.swap _ _ _) (.cons _ (.swap _ _ _)))
  refine gc_loop (fun kk a w' => ∃ (i : Nat) (A11 : Option Addr) (c11 : Nat) (A12 : Option Addr) (c12 : Nat) (SA SW : List Sl) (KA KW : Nat → Prop) (wA wW : World), Fr 160 a [(0, .int .i64 n), (1, .int .u64 (u : Nat)), (2, .string s2), (3, .slice A bl.length c), (9, .slice Afr (frameB bl).length cfr), (11, .slice A11 (5 * i) c11), (12, .slice A12 (5 * i) c12), (13, .int .i64 (i : Nat))] ∧ i ≤ 2 ∧ kk = 3 - i ∧ StD w.heap.size wA KA SA (dd D i) ∧ WtD wW KW w ok SW (dd D i) ∧ RdE wW KW uB Afr (frameB bl) ∧
    St w.heap.size w w' [.row A11 c11 22 1 (5 * i) ((SA).map slV), .row A12 c12 22 1 (5 * i) ((SW).map slV), .keep KW wW, .keep KA wA]) 3 ?_ ?_ ?_
  · intro a ha; exact ⟨0, none, 0, none, 0, [], [], _, _, _, _, ha.sub ⟨rfl, rfl, rfl, rfl, rfl, rfl, rfl, rfl, trivial⟩, by omega, by omega, StD.nil _ _ _, WtD.nil, hfr0, hS⟩
  · rintro a w' ⟨i, _, _, _, _, _, _, _, _, _, _, _, h1, h2, _⟩; omega
  clear hfr0 hS
  rintro kk a w1 ⟨i, A11, c11, A12, c12, SA, SW, KA, KW, wA, wW, hF, hi, hk, hA, hW, hfr, hS⟩
  refine gc_of hF ?_
  clear hF
  refine gc_seq fun K10 hK10 => ?_
  refine gc_seq fun K11 hK11 => ?_
  refine gc_region ?_
  refine gl_op rfl rfl rfl (op_pure hT rfl) ?_
  refine gl_op rfl rfl rfl (op_pure hT rfl) ?_
  refine gl_nil ?_
  refine hK11 _ _ ?_
  clear hK11; try clear K11
  refine gc_cond rfl rfl (fun c54 => ?_) (fun c54 => ?_)
  · try simp only [decide_eq_true_eq, decide_eq_false_iff_not, Bool.not_eq_true', Bool.not_eq_false', Int.not_lt, Int.not_le, Nat.not_lt, Nat.not_le, Bool.true_eq, Bool.false_eq, reduceCtorEq] at c54
    refine gc_skip ?_
    refine hK10 _ _ ?_
    clear hK10; try clear K10
    refine gc_seq fun K12 hK12 => ?_
    refine gc_block ?_
    refine gc_seq fun K13 hK13 => ?_
    refine gc_region ?_
    refine gl_op rfl rfl rfl (op_pure hT rfl) ?_
    refine gl_callf rfl rfl rfl rfl Tryd.func16 rfl rfl rfl (Uint_calls n hn _) ?_
    rintro _ w59 ⟨A59, c59, rfl, hr59, hb59⟩
    refine ⟨_, rfl, ?_⟩
    have hS := hS.addRow hb59 hr59
    obtain ⟨K59, hS, hA59⟩ := hA.push rfl hS
    refine gl_op rfl rfl rfl (op_pure hT rfl) ?_
    refine gl_op rfl rfl rfl (op_pure hT rfl) ?_
    refine gl_op rfl rfl rfl (op_pure hT rfl) ?_
    refine gl_op rfl rfl rfl (op_pure hT rfl) ?_
    refine gl_op rfl rfl rfl (op_pure hT rfl) ?_
    refine gl_nil ?_
    refine hK13 _ _ ?_
    clear hK13; try clear K13
    refine gc_seq fun K14 hK14 => ?_
    refine gc_region ?_
    refine gl_op rfl rfl rfl (op_pure hT rfl) ?_
    refine gl_callf rfl rfl rfl rfl Tryd.func34 rfl rfl rfl (ApiFloat_calls u _) ?_
    rintro _ _ ⟨rfl, n64, rfl⟩
    refine ⟨_, rfl, ?_⟩
    have hS := hS.dr n64
    refine gl_callf rfl rfl rfl rfl Tryd.func33 rfl rfl rfl (Float_calls u hu _) ?_
    rintro _ w65 ⟨A65, c65, rfl, hr65, hb65⟩
    refine ⟨_, rfl, ?_⟩
    have hS := hS.addRow hb65 hr65
    obtain ⟨K65, hS, hA65⟩ := hA59.push rfl hS
    refine gl_op rfl rfl rfl (op_pure hT rfl) ?_
    refine gl_op rfl rfl rfl (op_pure hT rfl) ?_
    refine gl_op rfl rfl rfl (op_pure hT rfl) ?_
    refine gl_op rfl rfl rfl (op_pure hT rfl) ?_
    refine gl_op rfl rfl rfl (op_pure hT rfl) ?_
    refine gl_nil ?_
    refine hK14 _ _ ?_
    clear hK14; try clear K14
    refine gc_seq fun K15 hK15 => ?_
    refine gc_region ?_
    refine gl_op rfl rfl rfl (op_pure hT rfl) ?_
    refine gl_callf rfl rfl rfl rfl Tryd.func29 rfl rfl rfl (Text_calls s2 (by omega) _ (hU.old hS)) ?_
    rintro _ w70 ⟨A70, c70, rfl, hr70, hb70⟩
    refine ⟨_, rfl, ?_⟩
    have hS := hS.addRow hb70 hr70
    obtain ⟨K70, hS, hA70⟩ := hA65.push rfl hS
    refine gl_op rfl rfl rfl (op_pure hT rfl) ?_
    refine gl_op rfl rfl rfl (op_pure hT rfl) ?_
    refine gl_op rfl rfl rfl (op_pure hT rfl) ?_
    refine gl_op rfl rfl rfl (op_pure hT rfl) ?_
    refine gl_op rfl rfl rfl (op_pure hT rfl) ?_
    refine gl_nil ?_
    refine hK15 _ _ ?_
    clear hK15; try clear K15
    refine gc_seq fun K16 hK16 => ?_
    refine gc_region ?_
    refine gl_op rfl rfl rfl (op_pure hT rfl) ?_
    refine gl_callf rfl rfl rfl rfl Tryd.func40 rfl rfl rfl (wFrameS_calls A _ c bl _ (h1b.old hS) rfl (by omega)) ?_
    rintro _ w75 ⟨A75, c75, rfl, hr75, hb75⟩
    refine ⟨_, rfl, ?_⟩
    have hS := hS.addRow hb75 hr75
    obtain ⟨K75, hS, hA75⟩ := hA70.push rfl hS
    refine gl_op rfl rfl rfl (op_pure hT rfl) ?_
    refine gl_op rfl rfl rfl (op_pure hT rfl) ?_
    refine gl_op rfl rfl rfl (op_pure hT rfl) ?_
    refine gl_op rfl rfl rfl (op_pure hT rfl) ?_
    refine gl_op rfl rfl rfl (op_pure hT rfl) ?_
    refine gl_nil ?_
    refine hK16 _ _ ?_
    clear hK16; try clear K16
    refine gc_seq fun K17 hK17 => ?_
    refine gc_region ?_
    refine gl_op rfl rfl rfl (op_pure hT rfl) ?_
    refine gl_callf rfl rfl rfl rfl Tryd.func42 rfl rfl rfl (readB_calls Afr _ cfr bl _ (hS.keepRd (i := 2) rfl hfr) rfl (by omega) hcfr) ?_
    rintro _ w80 ⟨A80, c80, e2, e3, rfl, hr80, hb80⟩
    refine ⟨_, rfl, ?_⟩
    have hS := hS.addRow hb80 hr80
    obtain ⟨K80, hS, hA80⟩ := hA75.push rfl hS
    refine gl_op rfl rfl rfl (op_pure hT rfl) ?_
    refine gl_op rfl rfl rfl (op_pure hT rfl) ?_
    refine gl_op rfl rfl rfl (op_pure hT rfl) ?_
    refine gl_op rfl rfl rfl (op_pure hT rfl) ?_
    refine gl_op rfl rfl rfl (op_pure hT rfl) ?_
    refine gl_op rfl rfl rfl (op_pure hT rfl) ?_
    refine gl_op rfl rfl rfl (op_pure hT rfl) ?_
    refine gl_nil ?_
    refine hK17 _ _ ?_
    clear hK17; try clear K17
    refine gc_seq fun K18 hK18 => ?_
    refine gc_region ?_
    refine gl_op rfl rfl rfl (op_pure hT rfl) ?_
    refine gl_op rfl rfl rfl (op_pure hT rfl) ?_
    refine gl_op rfl rfl rfl (op_pure hT rfl) ?_
    refine gl_op rfl rfl rfl (op_pure hT rfl) ?_
    refine gl_op rfl rfl rfl (op_pure hT rfl) ?_
    refine gl_op rfl rfl rfl (op_pure hT rfl) ?_
    refine gl_lit hT hS el22 rfl rfl rfl rfl rfl rfl rfl rfl rfl fun g90 w90 hS => ?_
    refine gl_append 0 hT hS el22 (hS.rd (i := 4) rfl) (rfl) rfl rfl rfl rfl rfl rfl rfl rfl (by first | omega | (simp; omega)) (by first | omega | (simp; omega)) fun A91 c91 w91 hS => ?_
    have hS := hS.erase 4
    refine gl_op rfl rfl rfl (op_pure hT rfl) ?_
    refine gl_nil ?_
    refine hK18 _ _ ?_
    clear hK18; try clear K18
    refine gc_seq fun K19 hK19 => ?_
    refine gc_region ?_
    refine gl_op rfl rfl rfl (op_pure hT rfl) ?_
    have hS := hS.permB (.cons _ (.cons _ (.swap ..)))
    refine gl_callf rfl rfl rfl rfl Tryd.func17 rfl rfl rfl (rUint_calls n hn _) ?_
    rintro _ w94 ⟨A94, c94, rfl, hr94, hb94⟩
    refine ⟨_, rfl, ?_⟩
    have hS := hS.addRow hb94 hr94
    obtain ⟨KW94, hS, hl94, hrr94⟩ := St.pushW rfl hS
    have hW94 := (hW.lift hl94).snoc (x := ((A94, _, c94) : Sl)) rfl (.inl hrr94)
    have hfr94 := hl94 hfr
    refine gl_op rfl rfl rfl (op_pure hT rfl) ?_
    refine gl_op rfl rfl rfl (op_pure hT rfl) ?_
    refine gl_op rfl rfl rfl (op_pure hT rfl) ?_
    refine gl_op rfl rfl rfl (op_pure hT rfl) ?_
    refine gl_op rfl rfl rfl (op_pure hT rfl) ?_
    refine gl_nil ?_
    refine hK19 _ _ ?_
    clear hK19; try clear K19
    refine gc_seq fun K20 hK20 => ?_
    refine gc_region ?_
    refine gl_op rfl rfl rfl (op_pure hT rfl) ?_
    refine gl_callf rfl rfl rfl rfl Tryd.func35 rfl rfl rfl (rFloat_calls u hu _) ?_
    rintro _ w99 ⟨A99, c99, rfl, hr99, hb99⟩
    refine ⟨_, rfl, ?_⟩
    have hS := hS.addRow hb99 hr99
    obtain ⟨KW99, hS, hl99, hrr99⟩ := St.pushW rfl hS
    have hW99 := (hW94.lift hl99).snoc (x := ((A99, _, c99) : Sl)) rfl (.inl hrr99)
    have hfr99 := hl99 hfr94
    refine gl_op rfl rfl rfl (op_pure hT rfl) ?_
    refine gl_op rfl rfl rfl (op_pure hT rfl) ?_
    refine gl_op rfl rfl rfl (op_pure hT rfl) ?_
    refine gl_op rfl rfl rfl (op_pure hT rfl) ?_
    refine gl_op rfl rfl rfl (op_pure hT rfl) ?_
    refine gl_nil ?_
    refine hK20 _ _ ?_
    clear hK20; try clear K20
    refine gc_seq fun K21 hK21 => ?_
    refine gc_region ?_
    refine gl_op rfl rfl rfl (op_pure hT rfl) ?_
    refine gl_callf rfl rfl rfl rfl Tryd.func30 rfl rfl rfl (rText_calls s2 (by omega) _) ?_
    rintro _ w104 ⟨A104, c104, rfl, hr104, hb104⟩
    refine ⟨_, rfl, ?_⟩
    have hS := hS.addRow hb104 hr104
    obtain ⟨KW104, hS, hl104, hrr104⟩ := St.pushW rfl hS
    have hW104 := (hW99.lift hl104).snoc (x := ((A104, _, c104) : Sl)) rfl (.inl hrr104)
    have hfr104 := hl104 hfr99
    refine gl_op rfl rfl rfl (op_pure hT rfl) ?_
    refine gl_op rfl rfl rfl (op_pure hT rfl) ?_
    refine gl_op rfl rfl rfl (op_pure hT rfl) ?_
    refine gl_op rfl rfl rfl (op_pure hT rfl) ?_
    refine gl_op rfl rfl rfl (op_pure hT rfl) ?_
    refine gl_nil ?_
    refine hK21 _ _ ?_
    clear hK21; try clear K21
    refine gc_region ?_
    refine gl_op rfl rfl rfl (op_pure hT rfl) ?_
    refine gl_op rfl rfl rfl (op_pure hT rfl) ?_
    refine gl_op rfl rfl rfl (op_pure hT rfl) ?_
    refine gl_op rfl rfl rfl (op_pure hT rfl) ?_
    refine gl_op rfl rfl rfl (op_pure hT rfl) ?_
    refine gl_op rfl rfl rfl (op_pure hT rfl) ?_
    refine gl_lit hT hS el22 rfl rfl rfl rfl rfl rfl rfl rfl rfl fun g113 w113 hS => ?_
    refine gl_append 1 hT hS el22 (hS.rd (i := 4) rfl) (rfl) rfl rfl rfl rfl rfl rfl rfl rfl (by first | omega | (simp; omega)) (by first | omega | (simp; omega)) fun A114 c114 w114 hS => ?_
    have hS := hS.erase 4
    refine gl_op rfl rfl rfl (op_pure hT rfl) ?_
    refine gl_nil ?_
    refine hK12 _ _ ?_
    clear hK12; try clear K12
    refine gc_region ?_
    refine gl_op rfl rfl rfl (op_pure hT rfl) ?_
    first | refine gl_fit hT rfl rfl rfl rfl (by omega) ?_ | refine gl_op rfl rfl rfl (op_pure hT rfl) ?_
    refine gl_op rfl rfl rfl (op_pure hT rfl) ?_
    refine gl_nil ?_
    intro a ha
    have hS := hS.permB (.cons _ (.cons _ (.swap ..)))
    have hWW := (hW104.snoc (x := ((Afr, (frameB bl).length, cfr) : Sl)) rfl (.inl hfr104)).snoc (x := ((A, bl.length, c) : Sl)) rfl (.inr h1b)
    rw [snoc5, snoc5] at hWW
    have hAA := hA80
    rw [snoc5, snoc5] at hAA
    have hd1 : dd D (i + 1) = dd D i ++ [(uintV n).1, (floatV u).1, (textV s2).1, frameB bl, bl] := by rw [dd_succ, hD]; rfl
    rw [← hd1] at hWW hAA
    refine ⟨i + 1, A91, c91, A114, c114, _, _, _, _, _, _, ha.sub ⟨rfl, rfl, rfl, rfl, rfl, rfl, rfl, rfl, trivial⟩, by omega, by omega, hAA, hWW, hfr104, ?_⟩
    rw [List.map_append, List.map_append]
    exact hS
  · try simp only [decide_eq_true_eq, decide_eq_false_iff_not, Bool.not_eq_true', Bool.not_eq_false', Int.not_lt, Int.not_le, Nat.not_lt, Nat.not_le, Bool.true_eq, Bool.false_eq, reduceCtorEq] at c54
    have hi2 : i = 2 := by omega
    subst hi2
    have hSAl : SA.length = 10 := by rw [hA.len, dd_len, hDl]
    have hSWl : SW.length = 10 := by rw [hW.1, dd_len, hDl]
    have hddl : (dd D 2).length = 10 := by rw [dd_len, hDl]
    refine gc_exit ?_
    refine hK8 _ _ ?_
    clear hK8; try clear K8
    refine gc_seq fun K22 hK22 => ?_
    refine gc_seq fun K23 hK23 => ?_
    refine gc_region ?_
    refine gl_op rfl rfl rfl (op_pure hT rfl) ?_
    refine gl_nil ?_
    refine hK23 _ _ ?_
    clear hK23; try clear K23
    refine gc_block ?_
    refine gc_loop (fun kk a w' => ∃ (j : Nat), Fr 160 a [(3, .slice A bl.length c), (9, .slice Afr (frameB bl).length cfr), (11, .slice A11 (5 * 2) c11), (12, .slice A12 (5 * 2) c12), (31, .int .i64 (j : Nat))] ∧ j ≤ 10 ∧ kk = 11 - j ∧
      St w.heap.size w w' [.row A11 c11 22 1 (5 * 2) ((SA).map slV), .row A12 c12 22 1 (5 * 2) ((SW).map slV), .keep KW wW, .keep KA wA]) 11 ?_ ?_ ?_
    · intro a ha; exact ⟨0, ha.sub ⟨rfl, rfl, rfl, rfl, rfl, trivial⟩, by omega, by omega, hS⟩
    · rintro a w' ⟨j, _, h1, h2, _⟩; omega
    rintro kk a w1 ⟨j, hF, hj, hk, hS⟩
    refine gc_of hF ?_
    clear hF
    refine gc_seq fun K24 hK24 => ?_
    refine gc_seq fun K25 hK25 => ?_
    refine gc_region ?_
    refine gl_op rfl rfl rfl (op_pure hT rfl) ?_
    refine gl_op rfl rfl rfl (op_pure hT rfl) ?_
    refine gl_op rfl rfl rfl (op_pure hT rfl) ?_
    refine gl_op rfl rfl rfl (op_pure hT rfl) ?_
    refine gl_nil ?_
    refine hK25 _ _ ?_
    clear hK25; try clear K25
    refine gc_cond rfl rfl (fun c118 => ?_) (fun c118 => ?_)
    · try simp only [decide_eq_true_eq, decide_eq_false_iff_not, Bool.not_eq_true', Bool.not_eq_false', Int.not_lt, Int.not_le, Nat.not_lt, Nat.not_le, Bool.true_eq, Bool.false_eq, reduceCtorEq] at c118
      refine gc_skip ?_
      refine hK24 _ _ ?_
      clear hK24; try clear K24
      refine gc_seq fun K26 hK26 => ?_
      refine gc_block ?_
      refine gc_seq fun K27 hK27 => ?_
      refine gc_anyS hS (by kernel_rfl) rfl fun nq25 hK => ?_
      have hS := hS.dr nq25
      obtain ⟨x, hx⟩ : ∃ x, SA[j]? = some x := ⟨_, List.getElem?_eq_getElem (by omega)⟩
      obtain ⟨y, hy⟩ : ∃ y, SW[j]? = some y := ⟨_, List.getElem?_eq_getElem (by omega)⟩
      obtain ⟨d, hd⟩ : ∃ d, (dd D 2)[j]? = some d := ⟨_, List.getElem?_eq_getElem (by omega)⟩
      obtain ⟨hx1, hx2, hx3⟩ := hA.ok j x d hx hd
      obtain ⟨hy1, hy2⟩ := hW.2 j y d hy hd
      have hdb := hDb d (dd_mem (List.mem_of_getElem? hd))
      have hrx : RdE wA KA uB x.1 d := rdE_of ((Owns.rdFp hx2).weaken hx3) rfl
      have hry : ∀ {w2 : World}, St w.heap.size w w2 [.row A11 c11 22 1 (5 * 2) ((SA).map slV), .row A12 c12 22 1 (5 * 2) ((SW).map slV), .keep KW wW, .keep KA wA] → RdE w2 All uB y.1 d := fun h => hy2.elim (fun q => Rd.weaken (h.keepRd (i := 2) rfl q) fun _ _ => trivial) (fun q => Rd.weaken (q.old h) fun _ _ => trivial)
      have hr0 : ∀ {w2 : World}, St w.heap.size w w2 [.row A11 c11 22 1 (5 * 2) ((SA).map slV), .row A12 c12 22 1 (5 * 2) ((SW).map slV), .keep KW wW, .keep KA wA] → RdE w2 All slV A11 SA := fun h => rdE_of (h.rd (i := 0) rfl) hSAl
      have hr1 : ∀ {w2 : World}, St w.heap.size w w2 [.row A11 c11 22 1 (5 * 2) ((SA).map slV), .row A12 c12 22 1 (5 * 2) ((SW).map slV), .keep KW wW, .keep KA wA] → RdE w2 All slV A12 SW := fun h => rdE_of (h.rd (i := 1) rfl) hSWl
      obtain ⟨ad0, hA0⟩ := (hr0 hS).baseM hx
      obtain ⟨ad1, hA1⟩ := (hr1 hS).baseM hy
      refine ga_take 0 rfl rfl rfl rfl (by kernel_rfl) (fun _ _ _ _ _ h => h) hK (fun w1 hS => op_pure hT rfl) ?_
      refine ga_take 1 rfl rfl rfl rfl (by kernel_rfl) (fun _ _ _ _ _ h => h) hK (fun w1 hS => op_pure hT rfl) ?_
      refine ga_take 2 rfl rfl rfl rfl (by kernel_rfl) (fun _ _ _ _ _ h => h) hK (fun w1 hS => op_indexAddr hT rfl rfl el22.cellsOf.1 el22.cellsOf.2 rfl rfl (by omega) (by omega) hA0) ?_
      refine ga_spell 123 (v := .pointer (some (ad0.add j))) rfl (by rw [Int.toNat_natCast, Nat.mul_one]) ?_
      refine ga_take 3 rfl rfl rfl rfl (by kernel_rfl) (fun _ _ _ _ _ h => h) hK (fun w1 hS => op_load hT rfl rfl rfl rfl ((hr0 hS).cellM hA0 hx)) ?_
      refine ga_take 4 rfl rfl rfl rfl (by kernel_rfl) (fun _ _ _ _ _ h => h) hK (fun w1 hS => op_pure hT rfl) ?_
      refine ga_take 5 rfl rfl rfl rfl (by kernel_rfl) (fun _ _ _ _ _ h => h) hK (fun w1 hS => op_pure hT rfl) ?_
      refine ga_take 6 rfl rfl rfl rfl (by kernel_rfl) (fun _ _ _ _ _ h => h) hK (fun w1 hS => op_indexAddr hT rfl rfl el22.cellsOf.1 el22.cellsOf.2 rfl rfl (by omega) (by omega) hA1) ?_
      refine ga_spell 127 (v := .pointer (some (ad1.add j))) rfl (by rw [Int.toNat_natCast, Nat.mul_one]) ?_
      refine ga_take 7 rfl rfl rfl rfl (by kernel_rfl) (fun _ _ _ _ _ h => h) hK (fun w1 hS => op_load hT rfl rfl rfl rfl ((hr1 hS).cellM hA1 hy)) ?_
      refine ga_one 8 (by kernel_rfl) rfl ?_
      refine gl_callf rfl rfl rfl rfl Tryd.func18 rfl rfl rfl (SameL_calls x.1 y.1 _ _ _ _ d d _ (hS.keepRd (i := 3) rfl hrx) (hry hS) hx1 hy1 (by omega) rfl) ?_
      rintro _ _ ⟨rfl, n129, rfl⟩
      refine ⟨_, rfl, ?_⟩
      have hS := hS.dr n129
      refine gl_nil ?_
      refine ga_next (hS.pre 4) fun hK => ?_
      refine ga_take 9 rfl rfl rfl rfl (by kernel_rfl) (fun _ _ _ _ _ h => h) hK (fun w1 hS => op_pure hT rfl) ?_
      refine ga_done (by kernel_rfl) ?_
      refine hK27 _ _ ?_
      clear hK27; try clear K27
      refine gc_cond_f rfl ?_
      refine gc_skip ?_
      refine hK26 _ _ ?_
      clear hK26; try clear K26
      refine gc_region ?_
      refine gl_op rfl rfl rfl (op_pure hT rfl) ?_
      first | refine gl_fit hT rfl rfl rfl rfl (by omega) ?_ | refine gl_op rfl rfl rfl (op_pure hT rfl) ?_
      refine gl_op rfl rfl rfl (op_pure hT rfl) ?_
      refine gl_nil ?_
      intro a ha
      exact ⟨j + 1, ha.sub ⟨rfl, rfl, rfl, rfl, rfl, trivial⟩, by omega, by omega, hS⟩
    · try simp only [decide_eq_true_eq, decide_eq_false_iff_not, Bool.not_eq_true', Bool.not_eq_false', Int.not_lt, Int.not_le, Nat.not_lt, Nat.not_le, Bool.true_eq, Bool.false_eq, reduceCtorEq] at c118
      refine gc_exit ?_
      refine hK22 _ _ ?_
      clear hK22; try clear K22
      refine gc_seq fun K28 hK28 => ?_
      refine gc_region ?_
      refine gl_op rfl rfl rfl (op_buildG rfl plan81 rfl rfl) ?_
      refine gl_box hS rfl rfl rfl rfl rfl fun g132 w132 hS => ?_
      refine gl_op rfl rfl rfl (op_pure hT rfl) ?_
      refine gl_nil ?_
      refine hK28 _ _ ?_
      clear hK28; try clear K28
      refine gc_seq fun K29 hK29 => ?_
      refine gc_seq fun K30 hK30 => ?_
      refine gc_region ?_
      refine gl_op rfl rfl rfl (op_pure hT rfl) ?_
      refine gl_nil ?_
      refine hK30 _ _ ?_
      clear hK30; try clear K30
      refine gc_block ?_
      have hS : St w.heap.size w w132 [.row A11 c11 22 1 (5 * 2) (SA.map slV), .row A12 c12 22 1 (5 * 2) (SW.map slV), .keep KW wW, .keep KA wA, .blk g132 81 [.slice none 0 0, .slice none 0 0]] := hS
      have hAF := hA.keep hS (i := 3) rfl
      have hfrF := hS.keepRd (i := 2) rfl hfr
      have hAll : RdE w132 (It.fp (.row A11 c11 22 1 (5 * 2) (SA.map slV))) slV A11 SA := rdE_of (hS.rowRd (i := 0) rfl fun _ hb => hb) hSAl
      have hap1 : ∀ b, It.fp (.row A11 c11 22 1 (5 * 2) (SA.map slV)) b → ¬ KA b := by
        have h2 := List.pairwise_iff_getElem.1 hS.2.2 0 3 (by simp) (by simp) (by omega)
        exact fun b hb hk => h2 b hb hk
      have hap2 : ∀ b, KW b → ¬ KA b := by
        have h2 := List.pairwise_iff_getElem.1 hS.2.2 2 3 (by simp) (by simp) (by omega)
        exact fun b hb hk => h2 b hb hk
      obtain ⟨wF, hwF⟩ : ∃ wF, wF = w132 := ⟨_, rfl⟩
      obtain ⟨F, hF0⟩ : ∃ F : Nat → Prop, F = fun b => ∃ it ∈ ([It.row A11 c11 22 1 (5 * 2) (SA.map slV), .row A12 c12 22 1 (5 * 2) (SW.map slV), .keep KW wW, .keep KA wA] : List It), it.fp b := ⟨_, rfl⟩
      obtain ⟨Fi, hFi⟩ : ∃ Fi : Nat → Nat → Prop, Fi = fun i b => F b ∧ ∀ (j : Nat) x, j < i → SA[j]? = some x → ¬ slF x b := ⟨_, rfl⟩
      have hS := (hS.permB (List.perm_append_comm (l₁ := ([It.row A11 c11 22 1 (5 * 2) (SA.map slV), .row A12 c12 22 1 (5 * 2) (SW.map slV), .keep KW wW, .keep KA wA] : List It)) (l₂ := [It.blk g132 81 [.slice none 0 0, .slice none 0 0]]))).keepRest (L := [.blk g132 81 [.slice none 0 0, .slice none 0 0]]) (L2 := ([It.row A11 c11 22 1 (5 * 2) (SA.map slV), .row A12 c12 22 1 (5 * 2) (SW.map slV), .keep KW wW, .keep KA wA] : List It))
      rw [← hwF] at hAF hfrF hAll hS
      rw [← hF0] at hS
      have hS := ((hS.nil 22 1).nil 5 1).keep0
      have hS : St w.heap.size w wF [.blk g132 81 [.slice none 0 0, .slice none 0 0], .keep F wF, .row none 0 22 1 0 [], .row none 0 5 1 0 [], .keep (fun _ => False) wF] := hS
      have hS := hS.permB (L' := [.blk g132 81 [.slice none 0 0, .slice none 0 0], .row none 0 22 1 0 [], .row none 0 5 1 0 [], .keep (fun _ => False) wF] ++ [.keep F wF]) (.cons _ (List.perm_append_comm (l₁ := [It.keep F wF])))
      have hS := hS.keepSub (K' := Fi 0) (fun b hb => by rw [hFi] at hb; exact hb.1)
      have hFA : ∀ (j : Nat) x, SA[j]? = some x → ∀ b, slF x b → KA b := fun j x hx b hb => by
        obtain ⟨d, hd⟩ : ∃ d, (dd D 2)[j]? = some d := ⟨_, List.getElem?_eq_getElem (by have := (List.getElem?_eq_some_iff.1 hx).1; omega)⟩
        exact (hA.ok j x d hx hd).2.2 b hb
      have hKF : ∀ b, KA b → F b := fun b hb => by rw [hF0]; exact ⟨.keep KA wA, by simp, hb⟩
      have hallF : ∀ i b, It.fp (.row A11 c11 22 1 (5 * 2) (SA.map slV)) b → Fi i b := fun i b hb => by
        rw [hFi]
        exact ⟨by rw [hF0]; exact ⟨_, by simp, hb⟩, fun j x _ hx hbx => hap1 b hb (hFA j x hx b hbx)⟩
      have hfrFi : ∀ i b, KW b → Fi i b := fun i b hb => by
        rw [hFi]
        exact ⟨by rw [hF0]; exact ⟨.keep KW wW, by simp, hb⟩, fun j x _ hx hbx => hap2 b hb (hFA j x hx b hbx)⟩
      rw [← hwF]
      refine gc_loop (fun kk a w' => ∃ (i : Nat) (bL bM : Sl) (S : List Sl) (M : List UInt8) (G : Nat → Prop) (wG : World), Fr 160 a [(3, .slice A bl.length c), (9, .slice Afr (frameB bl).length cfr), (11, .slice A11 (5 * 2) c11), (32, .pointer (some ⟨g132, 0, none⟩)), (33, .int .i64 (i : Nat))] ∧ i ≤ 10 ∧ kk = 11 - i ∧ bL.2.1 = 3 * i ∧ bM.2.1 = 3 * i ∧ S.length = 3 * i ∧ BkD wG G S M ∧
        St w.heap.size w w' [.blk g132 81 [slV bL, slV bM], .row bL.1 bL.2.2 22 1 (3 * i) ((S).map slV), .row bM.1 bM.2.2 5 1 (3 * i) ((M).map uB), .keep G wG, .keep (Fi i) wF]) 11 ?_ ?_ ?_
      · intro a ha; exact ⟨0, (none, 0, 0), (none, 0, 0), [], [], _, _, ha.sub ⟨rfl, rfl, rfl, rfl, rfl, trivial⟩, by omega, by omega, rfl, rfl, rfl, BkD.nil _ _, hS⟩
      · rintro a w' ⟨i, _, _, _, _, _, _, _, h1, h2, _⟩; omega
      clear hS
      rintro kk a w1 ⟨i, bL, bM, S, M, G, wG, hF, hi, hk, hbL, hbM, hSl, hB, hS⟩
      refine gc_of hF ?_
      clear hF
      refine gc_seq fun K31 hK31 => ?_
      refine gc_seq fun K32 hK32 => ?_
      refine gc_region ?_
      refine gl_op rfl rfl rfl (op_pure hT rfl) ?_
      refine gl_op rfl rfl rfl (op_pure hT rfl) ?_
      refine gl_op rfl rfl rfl (op_pure hT rfl) ?_
      refine gl_op rfl rfl rfl (op_pure hT rfl) ?_
      refine gl_nil ?_
      refine hK32 _ _ ?_
      clear hK32; try clear K32
      refine gc_cond rfl rfl (fun c136 => ?_) (fun c136 => ?_)
      · try simp only [decide_eq_true_eq, decide_eq_false_iff_not, Bool.not_eq_true', Bool.not_eq_false', Int.not_lt, Int.not_le, Nat.not_lt, Nat.not_le, Bool.true_eq, Bool.false_eq, reduceCtorEq] at c136
        refine gc_skip ?_
        refine hK31 _ _ ?_
        clear hK31; try clear K31
        refine gc_seq fun K33 hK33 => ?_
        refine gc_block ?_
        refine gc_region ?_
        refine gl_op rfl rfl rfl (op_pure hT rfl) ?_
        refine gl_op rfl rfl rfl (op_pure hT rfl) ?_
        refine gl_op rfl rfl rfl (op_pure hT rfl) ?_
        obtain ⟨x, hx⟩ : ∃ x, SA[i]? = some x := ⟨_, List.getElem?_eq_getElem (by omega)⟩
        obtain ⟨d, hd⟩ : ∃ d, (dd D 2)[i]? = some d := ⟨_, List.getElem?_eq_getElem (by omega)⟩
        obtain ⟨hx1, hx2, hx3⟩ := hAF.ok i x d hx hd
        have hdb := hDb d (dd_mem (List.mem_of_getElem? hd))
        have hr0 : RdE w1 (Fi i) slV A11 SA := hS.keepRd (i := 4) rfl (Rd.weaken hAll (hallF i))
        obtain ⟨ad0, hA0⟩ := hr0.baseM hx
        refine gl_op rfl rfl rfl (op_indexAddr hT rfl rfl el22.cellsOf.1 el22.cellsOf.2 rfl rfl (by omega) (by omega) hA0) ?_
        refine gl_spell 142 (v := .pointer (some (ad0.add i))) rfl (by rw [Int.toNat_natCast, Nat.mul_one]) ?_
        refine gl_op rfl rfl rfl (op_load hT rfl rfl rfl rfl (hr0.cellM hA0 hx)) ?_
        rw [← hx1] at hx2
        have hS := hS.carve (L := [.blk g132 81 [slV bL, slV bM], .row bL.1 bL.2.2 22 1 (3 * i) (S.map slV), .row bM.1 bM.2.2 5 1 (3 * i) (M.map uB), .keep G wG]) (K' := Fi (i + 1)) hx2 (fun b hb => by rw [hFi]; exact ⟨hKF b (hx3 b hb), fun j y hj hy hby => hAF.apart j i y x hj hy hx b hby hb⟩) (fun b hb => by rw [hFi] at hb ⊢; exact ⟨⟨hb.1, fun j y hj hy => hb.2 j y (by omega) hy⟩, hb.2 i x (by omega) hx⟩)
        have hS := hS.permB (L' := [.blk g132 81 [slV bL, slV bM], .row bL.1 bL.2.2 22 1 (3 * i) (S.map slV), .row bM.1 bM.2.2 5 1 (3 * i) (M.map uB), .row x.1 x.2.2 5 1 x.2.1 (d.map uB), .keep (Fi (i + 1)) wF, .keep G wG]) (.cons _ (.cons _ (.cons _ (List.perm_append_comm (l₁ := [It.keep G wG])))))
        refine gl_callf rfl rfl rfl rfl Tryd.func45 rfl rfl rfl (take_calls g132 bL bM S M x.1 x.2.2 x.2.1 (d.map uB) (Fi (i + 1)) G wF wG w1 (3 * i) (mkU (3 * i)) rfl hS hbL hbM (by omega) (by omega)) ?_
        rintro _ w144 ⟨rfl, bL', bM', Ax, Ag, cx, cg, G', hb1, hb2, hS, hGl, r1, r2, r3⟩
        refine ⟨_, rfl, ?_⟩
        have hS := hS.permB (.cons _ (.cons _ (.cons _ (.swap ..))))
        refine gl_nil ?_
        refine hK33 _ _ ?_
        clear hK33; try clear K33
        refine gc_region ?_
        refine gl_op rfl rfl rfl (op_pure hT rfl) ?_
        first | refine gl_fit hT rfl rfl rfl rfl (by omega) ?_ | refine gl_op rfl rfl rfl (op_pure hT rfl) ?_
        refine gl_op rfl rfl rfl (op_pure hT rfl) ?_
        refine gl_nil ?_
        intro a ha
        have hB2 := (((hB.lift hGl).snoc (x := ((x.1, x.2.1, x.2.2) : Sl)) r1 (by simp only; omega)).snoc (x := ((Ax, x.2.1 + 1, cx) : Sl)) r2 (by simp only; omega)).snoc (x := ((Ag, x.2.1 + 101, cg) : Sl)) r3 (by simp only; omega)
        rw [show S ++ [((x.1, x.2.1, x.2.2) : Sl)] ++ [((Ax, x.2.1 + 1, cx) : Sl)] ++ [((Ag, x.2.1 + 101, cg) : Sl)] = S ++ [(x.1, x.2.1, x.2.2), (Ax, x.2.1 + 1, cx), (Ag, x.2.1 + 101, cg)] by simp, show M ++ [mkU (3 * i)] ++ [mkU (3 * i)] ++ [mkU (3 * i)] = M ++ [mkU (3 * i), mkU (3 * i), mkU (3 * i)] by simp] at hB2
        exact ⟨i + 1, bL', bM', _, _, _, _, ha.sub ⟨rfl, rfl, rfl, rfl, rfl, trivial⟩, by omega, by omega, by omega, by omega, by simp; omega, hB2, hS⟩
      · try simp only [decide_eq_true_eq, decide_eq_false_iff_not, Bool.not_eq_true', Bool.not_eq_false', Int.not_lt, Int.not_le, Nat.not_lt, Nat.not_le, Bool.true_eq, Bool.false_eq, reduceCtorEq] at c136
        have hi10 : i = 10 := by omega
        subst hi10
        refine gc_exit ?_
        refine hK29 _ _ ?_
        clear hK29; try clear K29
        refine gc_seq fun K34 hK34 => ?_
        refine gc_region ?_
        refine gl_op rfl rfl rfl (op_pure hT rfl) ?_
        refine gl_callf rfl rfl rfl rfl Tryd.func40 rfl rfl rfl (wFrameS_calls A _ c bl _ (h1b.old hS) rfl (by omega)) ?_
        rintro _ w147 ⟨A147, c147, rfl, hr147, hb147⟩
        refine ⟨_, rfl, ?_⟩
        have hS := hS.addRow hb147 hr147
        refine gl_op rfl rfl rfl (op_pure hT rfl) ?_
        refine gl_op rfl rfl rfl (op_pure hT rfl) ?_
        refine gl_op rfl rfl rfl (op_pure hT rfl) ?_
        refine gl_op rfl rfl rfl (op_pure hT rfl) ?_
        refine gl_op rfl rfl rfl (op_pure hT rfl) ?_
        refine gl_nil ?_
        refine hK34 _ _ ?_
        clear hK34; try clear K34
        refine gc_seq fun K35 hK35 => ?_
        refine gc_region ?_
        refine gl_op rfl rfl rfl (op_pure hT rfl) ?_
        have hS : St w.heap.size w w147 [.blk g132 81 [slV bL, slV bM], .row bL.1 bL.2.2 22 1 (3 * 10) ((S).map slV), .row bM.1 bM.2.2 5 1 (3 * 10) ((M).map uB), .keep G wG, .keep (Fi 10) wF, .row A147 c147 5 1 (frameB bl).length ((frameB bl).map uB)] := hS
        have hMl := hB.len
        refine gl_callf rfl rfl rfl rfl Tryd.func46 rfl rfl rfl (whole_calls g132 bL bM S M _ (by rw [hS.cell (i := 0) rfl]; rfl) (by rw [hS.cell (i := 0) rfl]; rfl) (rdE_of (hS.rd (i := 1) rfl) hSl) (rdE_of (hS.rd (i := 2) rfl) (by omega)) (by omega) (by omega) (hB.lift fun q => hS.keepRd (i := 3) rfl q) (by omega)) ?_
        rintro _ w151 ⟨rfl, hb151⟩
        refine ⟨_, rfl, ?_⟩
        have hS := hS.grown hb151
        refine gl_op rfl rfl rfl (op_pure hT rfl) ?_
        refine gl_un rfl rfl rfl rfl ?_
        refine gl_op rfl rfl rfl (op_pure hT rfl) ?_
        refine gl_un rfl rfl rfl rfl ?_
        refine gl_op rfl rfl rfl (op_pure hT rfl) ?_
        refine gl_un rfl rfl rfl rfl ?_
        refine gl_callf rfl rfl rfl rfl Tryd.func18 rfl rfl rfl (SameL_calls A147 Afr _ _ _ _ (frameB bl) (frameB bl) _ (rdE_of (hS.rd (i := 5) rfl) rfl) (hS.keepRd (i := 4) rfl (Rd.weaken hfrF (hfrFi 10))) rfl rfl (by rw [frameB_len]; omega) rfl) ?_
        rintro _ _ ⟨rfl, n155, rfl⟩
        refine ⟨_, rfl, ?_⟩
        have hS := hS.dr n155
        refine gl_op rfl rfl rfl (op_pure hT rfl) ?_
        refine gl_op rfl rfl rfl (op_pure hT rfl) ?_
        refine gl_un rfl rfl rfl rfl ?_
        refine gl_callf rfl rfl rfl rfl Tryd.func15 rfl rfl rfl (told_calls _ (hU.old hS)) ?_
        rintro _ w158 ⟨rfl, hb158⟩
        refine ⟨_, rfl, ?_⟩
        have hS := hS.grown hb158
        refine gl_op rfl rfl rfl (op_pure hT rfl) ?_
        refine gl_op rfl rfl rfl (op_pure hT rfl) ?_
        refine gl_nil ?_
        refine hK35 _ _ ?_
        clear hK35; try clear K35
        refine gc_ret ?_
        try simp only [x_then_ret, x_block_ret]
        refine gk_ret1 rfl rfl ?_
        exact ⟨rfl, hS.below⟩
end Go.Proofs.YtpeomdobcobdiaaDoor
