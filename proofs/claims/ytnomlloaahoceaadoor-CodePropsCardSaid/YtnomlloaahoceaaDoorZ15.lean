/- Contracts of functions that CodeProps reaches, and words to say them. No condition. -/
import Derived.Test.YtnomlloaahoceaaDoorZ14
import Derived.WideLaws
/- Contracts of package code: sums, heads and tails; what recovers. No condition. -/
namespace Go.Proofs.YtnomlloaahoceaaDoor
open Go.RowKit
set_option linter.unusedVariables false
set_option linter.unusedSimpArgs false
theorem sealed_calls (A : Option Addr) (n c : Nat) (l : List UInt8) (w : World) {ok : Nat → Prop} (h1 : RdE w ok uB A l) (hn : n = l.length) (hb : l.length ≤ 1048576000) :
    Calls Tryd.prog 22 ⟨[.slice A n c]⟩ w fun e w' => ∃ A' c', e = .returned (.slice A' 4 c') ∧ Owns w' w.heap.size A' c' 5 1 4 ((le4 (crcV l)).map uB) ∧ Below w.heap.size w w' := by
  subst hn
  refine gc_enter (N := 19) Tryd.func22 rfl rfl rfl [(0, _)] rfl ?_
  have hS := St.start w
  refine gc_seq fun K1 hK1 => ?_
  refine gc_region ?_
  refine gl_op rfl rfl rfl (op_pure hT rfl) ?_
  refine gl_nil ?_
  refine hK1 _ _ ?_
  clear hK1; try clear K1
  refine gc_seq fun K2 hK2 => ?_
  refine gc_region ?_
  refine gl_op rfl rfl rfl (op_pure hT rfl) ?_
  refine gl_lit hT hS el31 rfl rfl rfl rfl rfl rfl rfl rfl rfl fun g5 w5 hS => ?_
  refine gl_callf rfl rfl rfl rfl Tryd.func41 rfl rfl rfl (Sum1_calls _ A _ c l _ (hS.rdE (l := [(A, l.length, c)]) (i := 0) rfl) (h1.old hS) (by omega)) ?_
  rintro _ w6 ⟨rfl, hb6⟩
  refine ⟨_, rfl, ?_⟩
  have hS := hS.grown hb6
  refine gl_op rfl rfl rfl (op_pure hT rfl) ?_
  refine gl_nil ?_
  refine hK2 _ _ ?_
  clear hK2; try clear K2
  refine gc_seq fun K3 hK3 => ?_
  refine gc_region ?_
  refine gl_op rfl rfl rfl (op_pure hT rfl) ?_
  refine gl_op rfl rfl rfl (op_pure hT rfl) ?_
  refine gl_op rfl rfl rfl (op_pure hT rfl) ?_
  refine gl_op rfl rfl rfl (op_pure hT rfl) ?_
  refine gl_op rfl rfl rfl (op_pure hT rfl) ?_
  refine gl_op rfl rfl rfl (op_pure hT rfl) ?_
  refine gl_op rfl rfl rfl (op_pure hT rfl) ?_
  refine gl_op rfl rfl rfl (op_pure hT rfl) ?_
  refine gl_op rfl rfl rfl (op_pure hT rfl) ?_
  refine gl_op rfl rfl rfl (op_pure hT rfl) ?_
  refine gl_op rfl rfl rfl (op_pure hT rfl) ?_
  refine gl_lit hT hS el5 rfl rfl rfl rfl rfl rfl rfl rfl rfl fun g18 w18 hS => ?_
  refine gl_op rfl rfl rfl (op_pure hT rfl) ?_
  refine gl_nil ?_
  refine hK3 _ _ ?_
  clear hK3; try clear K3
  refine gc_ret ?_
  try simp only [x_then_ret, x_block_ret]
  refine gk_ret1 rfl rfl ?_
  obtain ⟨h2, h3⟩ := hS.out (i := 1) rfl
  obtain ⟨v, hv⟩ : ∃ v, v = crcV l := ⟨_, rfl⟩
  rw [← hv] at h2 ⊢
  have e1 := u8_wrap v
  have e2 := u8_wrap (v / 256)
  have e3 := u8_wrap (v / 65536)
  have e4 := u8_wrap (v / 16777216)
  simp only [Int.natCast_ediv] at e2 e3 e4
  have e5 : [Value.int .u8 (IntKind.u8.wrap v), .int .u8 (IntKind.u8.wrap ((v : Int) / 2 ^ 8)), .int .u8 (IntKind.u8.wrap ((v : Int) / 2 ^ 16)), .int .u8 (IntKind.u8.wrap ((v : Int) / 2 ^ 24))] = (le4 v).map uB := by
    simp only [le4, List.map_cons, List.map_nil]
    rw [← e1, ← e2, ← e3, ← e4]
    rfl
  have h4 : Owns w18 w.heap.size (some ⟨g18, 0, none⟩) 4 5 1 4 [Value.int .u8 (IntKind.u8.wrap v), .int .u8 (IntKind.u8.wrap ((v : Int) / 2 ^ 8)), .int .u8 (IntKind.u8.wrap ((v : Int) / 2 ^ 16)), .int .u8 (IntKind.u8.wrap ((v : Int) / 2 ^ 24))] := h2
  rw [e5] at h4
  exact ⟨_, _, rfl, h4, h3⟩
def hdV (mm : List UInt8) (l : List UInt8) : Option (Int × Int) :=
  if 1048576 < l.length then some (2, 1048576) else if l.length < 4 ∨ l.take 4 ≠ mm then some (80, 0) else if l.length < 5 ∨ l.getD 4 0 ≠ 1 then some (81, 4) else none
def tlV (l : List UInt8) (at_ : Int) : Option (Int × Int) :=
  if (l.length : Int) - at_ < 4 then some (10, at_) else if le4 (crcV (l.take at_.toNat)) ≠ (l.drop at_.toNat).take 4 then some (16, at_) else if at_ + 4 < (l.length : Int) then some (82, at_ + 4) else none
theorem cHead_calls {B : Nat} {w0 : World} (g : Nat) (bt : TypeId) (A : Option Addr) (n c : Nat) (l mm : List UInt8) (at_ : Int) (cs : List Value) (L : List It) (w : World) (hS0 : St B w0 w (.blk g bt (cuC A n c at_ cs) :: L)) {ok : Nat → Prop} (hr : Rdb B w0 ok A l) (hn : n = l.length) (hc : n ≤ c) (hb : l.length ≤ 4611686018427387904) :
    Calls Tryd.prog 50 ⟨[.pointer (some ⟨g, 0, none⟩), .string (strB mm)]⟩ w fun en w' => (∃ x y, hdV mm l = some (x, y) ∧ en = .panicked (pn x y) ∧ St B w0 w' (.blk g bt (cuC A n c at_ cs) :: L)) ∨
      (hdV mm l = none ∧ en = .returned (.tuple #[]) ∧ St B w0 w' (.blk g bt (cuC A n c 5 cs) :: L)) := by
  subst hn
  refine gc_enter (N := 50) Tryd.func50 rfl rfl rfl [(0, _), (1, _)] rfl ?_
  have hS := St.start w
  have hS := hS0
  refine gc_seq fun K1 hK1 => ?_
  refine gc_seq fun K2 hK2 => ?_
  refine gc_region ?_
  refine gl_op rfl rfl rfl (op_pure hT rfl) ?_
  refine gl_op rfl rfl rfl (op_pure hT rfl) ?_
  refine gl_op rfl rfl rfl (op_fieldB 0 rfl Tryd.underlying54 rfl el31 rfl rfl) ?_
  refine gl_op rfl rfl rfl (op_loadB 0 hT hS rfl rfl rfl rfl rfl rfl) ?_
  refine gl_op rfl rfl rfl (op_pure hT rfl) ?_
  refine gl_op rfl rfl rfl (op_pure hT rfl) ?_
  refine gl_nil ?_
  refine hK2 _ _ ?_
  clear hK2; try clear K2
  refine gc_cond rfl rfl (fun c9 => ?_) (fun c9 => ?_)
  · try simp only [decide_eq_true_eq, decide_eq_false_iff_not, Bool.not_eq_true', Bool.not_eq_false', Int.not_lt, Int.not_le, Nat.not_lt, Nat.not_le, Bool.true_eq, Bool.false_eq, reduceCtorEq] at c9
    refine gc_region ?_
    refine gl_op rfl rfl rfl (op_pure hT rfl) ?_
    refine gl_callP rfl rfl rfl rfl Tryd.func54 rfl rfl rfl (fail_calls _ 2 1048576 _) ?_
    rintro _ w11 ⟨rfl, hb11⟩
    refine .inr ⟨_, rfl, ?_⟩
    try simp only [x_then_panic, x_block_panic]
    refine gk_panic ?_; exact .inl ⟨_, _, by unfold hdV; rw [if_pos (by omega)], rfl, hS.eqv hb11⟩
  · try simp only [decide_eq_true_eq, decide_eq_false_iff_not, Bool.not_eq_true', Bool.not_eq_false', Int.not_lt, Int.not_le, Nat.not_lt, Nat.not_le, Bool.true_eq, Bool.false_eq, reduceCtorEq] at c9
    refine gc_skip ?_
    refine hK1 _ _ ?_
    clear hK1; try clear K1
    refine gc_seq fun K3 hK3 => ?_
    refine gc_seq fun K4 hK4 => ?_
    refine gc_region ?_
    refine gl_op rfl rfl rfl (op_pure hT rfl) ?_
    refine gl_op rfl rfl rfl (op_pure hT rfl) ?_
    refine gl_op rfl rfl rfl (op_fieldB 0 rfl Tryd.underlying54 rfl el31 rfl rfl) ?_
    refine gl_op rfl rfl rfl (op_loadB 0 hT hS rfl rfl rfl rfl rfl rfl) ?_
    refine gl_op rfl rfl rfl (op_pure hT rfl) ?_
    refine gl_op rfl rfl rfl (op_pure hT rfl) ?_
    refine gl_op rfl rfl rfl (op_pure hT rfl) ?_
    refine gl_split (t := 18) rfl (fun c18 => ?_) (fun c18 => ?_)
    · try simp only [decide_eq_true_eq, decide_eq_false_iff_not, Bool.not_eq_true', Bool.not_eq_false', Int.not_lt, Int.not_le, Nat.not_lt, Nat.not_le, Bool.true_eq, Bool.false_eq, reduceCtorEq] at c18
      refine gl_pass rfl rfl rfl rfl rfl rfl ?_
      refine gl_pass rfl rfl rfl rfl rfl rfl ?_
      refine gl_pass rfl rfl rfl rfl rfl rfl ?_
      refine gl_pass rfl rfl rfl rfl rfl rfl ?_
      refine gl_pass rfl rfl rfl rfl rfl rfl ?_
      refine gl_pass rfl rfl rfl rfl rfl rfl ?_
      refine gl_pass rfl rfl rfl rfl rfl rfl ?_
      refine gl_pass rfl rfl rfl rfl rfl rfl ?_
      refine gl_op rfl rfl rfl (op_pure hT rfl) ?_
      refine gl_nil ?_
      refine hK4 _ _ ?_
      clear hK4; try clear K4
      refine gc_cond_t rfl ?_
      refine gc_region ?_
      refine gl_op rfl rfl rfl (op_pure hT rfl) ?_
      refine gl_callP rfl rfl rfl rfl Tryd.func54 rfl rfl rfl (fail_calls _ 80 0 _) ?_
      rintro _ w29 ⟨rfl, hb29⟩
      refine .inr ⟨_, rfl, ?_⟩
      try simp only [x_then_panic, x_block_panic]
      refine gk_panic ?_; exact .inl ⟨_, _, by unfold hdV; rw [if_neg (by omega), if_pos (by first | (left; omega) | (right; intro h; exact c27 (by rw [h])))], rfl, hS.eqv hb29⟩
    · try simp only [decide_eq_true_eq, decide_eq_false_iff_not, Bool.not_eq_true', Bool.not_eq_false', Int.not_lt, Int.not_le, Nat.not_lt, Nat.not_le, Bool.true_eq, Bool.false_eq, reduceCtorEq] at c18
      refine gl_un rfl rfl rfl rfl ?_
      refine gl_op rfl rfl rfl (op_pure hT rfl) ?_
      refine gl_un rfl rfl rfl rfl ?_
      refine gl_op rfl rfl rfl (op_pure hT rfl) ?_
      refine gl_un rfl rfl rfl rfl ?_
      refine gl_op rfl rfl rfl (op_fieldB 0 rfl Tryd.underlying54 rfl el31 rfl rfl) ?_
      refine gl_un rfl rfl rfl rfl ?_
      refine gl_op rfl rfl rfl (op_loadB 0 hT hS rfl rfl rfl rfl rfl rfl) ?_
      refine gl_un rfl rfl rfl rfl ?_
      refine gl_op rfl rfl rfl (op_slice_h hT el5 rfl rfl rfl rfl (by first | omega | (simp; omega)) (by first | omega | (simp; omega))) ?_
      refine gl_un rfl rfl rfl rfl ?_
      refine gl_op rfl rfl rfl (op_b2s hT ((hr hS).take 4) rfl rfl rfl rfl rfl (by rw [List.length_take]; omega)) ?_
      refine gl_un rfl rfl rfl rfl ?_
      refine gl_op rfl rfl rfl (op_pure hT rfl) ?_
      refine gl_un rfl rfl rfl rfl ?_
      refine gl_op rfl rfl rfl (op_pure hT rfl) ?_
      refine gl_op rfl rfl rfl (op_pure hT rfl) ?_
      refine gl_nil ?_
      refine hK4 _ _ ?_
      clear hK4; try clear K4
      refine gc_cond rfl rfl (fun c27 => ?_) (fun c27 => ?_)
      · try simp only [decide_eq_true_eq, decide_eq_false_iff_not, Bool.not_eq_true', Bool.not_eq_false', Int.not_lt, Int.not_le, Nat.not_lt, Nat.not_le, Bool.true_eq, Bool.false_eq, reduceCtorEq] at c27
        refine gc_region ?_
        refine gl_op rfl rfl rfl (op_pure hT rfl) ?_
        refine gl_callP rfl rfl rfl rfl Tryd.func54 rfl rfl rfl (fail_calls _ 80 0 _) ?_
        rintro _ w29 ⟨rfl, hb29⟩
        refine .inr ⟨_, rfl, ?_⟩
        try simp only [x_then_panic, x_block_panic]
        refine gk_panic ?_; exact .inl ⟨_, _, by unfold hdV; rw [if_neg (by omega), if_pos (by first | (left; omega) | (right; intro h; exact c27 (by rw [h])))], rfl, hS.eqv hb29⟩
      · try simp only [decide_eq_true_eq, decide_eq_false_iff_not, Bool.not_eq_true', Bool.not_eq_false', Int.not_lt, Int.not_le, Nat.not_lt, Nat.not_le, Bool.true_eq, Bool.false_eq, reduceCtorEq] at c27
        have hmm : l.take 4 = mm := strB_inj c27
        refine gc_skip ?_
        refine hK3 _ _ ?_
        clear hK3; try clear K3
        refine gc_seq fun K5 hK5 => ?_
        refine gc_seq fun K6 hK6 => ?_
        refine gc_region ?_
        refine gl_op rfl rfl rfl (op_pure hT rfl) ?_
        refine gl_op rfl rfl rfl (op_pure hT rfl) ?_
        refine gl_op rfl rfl rfl (op_fieldB 0 rfl Tryd.underlying54 rfl el31 rfl rfl) ?_
        refine gl_op rfl rfl rfl (op_loadB 0 hT hS rfl rfl rfl rfl rfl rfl) ?_
        refine gl_op rfl rfl rfl (op_pure hT rfl) ?_
        refine gl_op rfl rfl rfl (op_pure hT rfl) ?_
        refine gl_op rfl rfl rfl (op_pure hT rfl) ?_
        refine gl_split (t := 36) rfl (fun c36 => ?_) (fun c36 => ?_)
        · try simp only [decide_eq_true_eq, decide_eq_false_iff_not, Bool.not_eq_true', Bool.not_eq_false', Int.not_lt, Int.not_le, Nat.not_lt, Nat.not_le, Bool.true_eq, Bool.false_eq, reduceCtorEq] at c36
          refine gl_pass rfl rfl rfl rfl rfl rfl ?_
          refine gl_pass rfl rfl rfl rfl rfl rfl ?_
          refine gl_pass rfl rfl rfl rfl rfl rfl ?_
          refine gl_pass rfl rfl rfl rfl rfl rfl ?_
          refine gl_pass rfl rfl rfl rfl rfl rfl ?_
          refine gl_pass rfl rfl rfl rfl rfl rfl ?_
          refine gl_pass rfl rfl rfl rfl rfl rfl ?_
          refine gl_op rfl rfl rfl (op_pure hT rfl) ?_
          refine gl_nil ?_
          refine hK6 _ _ ?_
          clear hK6; try clear K6
          refine gc_cond_t rfl ?_
          refine gc_region ?_
          refine gl_op rfl rfl rfl (op_pure hT rfl) ?_
          refine gl_callP rfl rfl rfl rfl Tryd.func54 rfl rfl rfl (fail_calls _ 81 4 _) ?_
          rintro _ w46 ⟨rfl, hb46⟩
          refine .inr ⟨_, rfl, ?_⟩
          try simp only [x_then_panic, x_block_panic]
          refine gk_panic ?_
          refine .inl ⟨81, 4, ?_, rfl, hS.eqv hb46⟩
          unfold hdV
          rw [if_neg (by omega), if_neg (fun h => h.elim (fun h => by omega) (fun h => h hmm)), if_pos]
          first | (left; omega) | (right; intro h; rw [show ((4 : Int)).toNat = 4 from rfl, h] at c44; exact c44 rfl)
        · try simp only [decide_eq_true_eq, decide_eq_false_iff_not, Bool.not_eq_true', Bool.not_eq_false', Int.not_lt, Int.not_le, Nat.not_lt, Nat.not_le, Bool.true_eq, Bool.false_eq, reduceCtorEq] at c36
          refine gl_un rfl rfl rfl rfl ?_
          refine gl_op rfl rfl rfl (op_pure hT rfl) ?_
          refine gl_un rfl rfl rfl rfl ?_
          refine gl_op rfl rfl rfl (op_pure hT rfl) ?_
          refine gl_un rfl rfl rfl rfl ?_
          refine gl_op rfl rfl rfl (op_fieldB 0 rfl Tryd.underlying54 rfl el31 rfl rfl) ?_
          refine gl_un rfl rfl rfl rfl ?_
          refine gl_op rfl rfl rfl (op_loadB 0 hT hS rfl rfl rfl rfl rfl rfl) ?_
          refine gl_un rfl rfl rfl rfl ?_
          obtain ⟨ad, hA, hcl⟩ := (hr hS).at 0 (i := 4) (by omega) (by omega)
          refine gl_op rfl rfl rfl (op_indexAddr hT rfl rfl el5.cellsOf.1 el5.cellsOf.2 rfl rfl (by omega) (by omega) hA) ?_
          refine gl_un rfl rfl rfl rfl ?_
          refine gl_op rfl rfl rfl (op_load hT rfl rfl rfl rfl hcl) ?_
          refine gl_un rfl rfl rfl rfl ?_
          refine gl_op rfl rfl rfl (op_pure hT rfl) ?_
          refine gl_op rfl rfl rfl (op_pure hT rfl) ?_
          refine gl_nil ?_
          refine hK6 _ _ ?_
          clear hK6; try clear K6
          refine gc_cond rfl rfl (fun c44 => ?_) (fun c44 => ?_)
          · try simp only [decide_eq_true_eq, decide_eq_false_iff_not, Bool.not_eq_true', Bool.not_eq_false', Int.not_lt, Int.not_le, Nat.not_lt, Nat.not_le, Bool.true_eq, Bool.false_eq, reduceCtorEq] at c44
            refine gc_region ?_
            refine gl_op rfl rfl rfl (op_pure hT rfl) ?_
            refine gl_callP rfl rfl rfl rfl Tryd.func54 rfl rfl rfl (fail_calls _ 81 4 _) ?_
            rintro _ w46 ⟨rfl, hb46⟩
            refine .inr ⟨_, rfl, ?_⟩
            try simp only [x_then_panic, x_block_panic]
            refine gk_panic ?_
            refine .inl ⟨81, 4, ?_, rfl, hS.eqv hb46⟩
            unfold hdV
            rw [if_neg (by omega), if_neg (fun h => h.elim (fun h => by omega) (fun h => h hmm)), if_pos]
            first | (left; omega) | (right; intro h; rw [show ((4 : Int)).toNat = 4 from rfl, h] at c44; exact c44 rfl)
          · try simp only [decide_eq_true_eq, decide_eq_false_iff_not, Bool.not_eq_true', Bool.not_eq_false', Int.not_lt, Int.not_le, Nat.not_lt, Nat.not_le, Bool.true_eq, Bool.false_eq, reduceCtorEq] at c44
            refine gc_skip ?_
            refine hK5 _ _ ?_
            clear hK5; try clear K5
            refine gc_region ?_
            refine gl_op rfl rfl rfl (op_pure hT rfl) ?_
            refine gl_op rfl rfl rfl (op_pure hT rfl) ?_
            refine gl_op rfl rfl rfl (op_fieldB 1 rfl Tryd.underlying54 rfl el3 rfl rfl) ?_
            refine gl_store 0 hS el3.cellsOf.1 el3.cellsOf.2 rfl rfl rfl rfl rfl rfl rfl rfl fun wcode_go_74 hS => ?_
            refine gl_nil ?_
            refine gk_end0 rfl ?_
            refine .inr ⟨?_, rfl, hS⟩
            unfold hdV
            rw [if_neg (by omega), if_neg (fun h => h.elim (fun h => by omega) (fun h => h hmm)), if_neg]
            rintro (h | h)
            · omega
            · have e : ((l.getD 4 0).toNat : Int) = 1 := c44
              exact h (UInt8.toNat_inj.1 (by show (l.getD 4 0).toNat = 1; omega))
set_option maxRecDepth 100000 in
theorem cTail_calls {B : Nat} {w0 : World} (g : Nat) (bt : TypeId) (A : Option Addr) (n c : Nat) (l : List UInt8) (at_ : Int) (cs : List Value) (L : List It) (w : World) (hS0 : St B w0 w (.blk g bt (cuC A n c at_ cs) :: L)) {ok : Nat → Prop} (hr : Rdb B w0 ok A l) (hn : n = l.length) (hc : n ≤ c) (hb : l.length ≤ 1048576) (hat : 0 ≤ at_ ∧ at_ ≤ l.length) :
    Calls Tryd.prog 57 ⟨[.pointer (some ⟨g, 0, none⟩)]⟩ w fun en w' => (∃ x y, tlV l at_ = some (x, y) ∧ en = .panicked (pn x y) ∧ St B w0 w' (.blk g bt (cuC A n c at_ cs) :: L)) ∨
      (tlV l at_ = none ∧ en = .returned (.tuple #[]) ∧ St B w0 w' (.blk g bt (cuC A n c at_ cs) :: L)) := by
  subst hn
  obtain ⟨j, rfl⟩ : ∃ j : Nat, at_ = (j : Int) := ⟨at_.toNat, by omega⟩
  refine gc_enter (N := 70) Tryd.func57 rfl rfl rfl [(0, _)] rfl ?_
  have hS := St.start w
  have hS := hS0
  refine gc_seq fun K1 hK1 => ?_
  refine gc_seq fun K2 hK2 => ?_
  refine gc_anyS hS (by kernel_rfl) rfl fun nq0 hK => ?_
  have hS := hS.dr nq0
  refine ga_take 0 rfl rfl rfl rfl (by kernel_rfl) (fun _ _ _ _ h => h) hK (fun w1 hS => op_pure hT rfl) ?_
  refine ga_take 1 rfl rfl rfl rfl (by kernel_rfl) (fun _ _ _ _ h => h) hK (fun w1 hS => op_pure hT rfl) ?_
  refine ga_take 2 rfl rfl rfl rfl (by kernel_rfl) (fun _ _ _ _ h => h) hK (fun w1 hS => op_fieldB 0 rfl Tryd.underlying54 rfl el31 rfl rfl) ?_
  refine ga_take 3 rfl rfl rfl rfl (by kernel_rfl) (fun _ _ _ _ h => h) hK (fun w1 hS => op_loadB 0 hT hS rfl rfl rfl rfl rfl rfl) ?_
  refine ga_take 4 rfl rfl rfl rfl (by kernel_rfl) (fun _ _ _ _ h => h) hK (fun w1 hS => op_pure hT rfl) ?_
  refine ga_take 5 rfl rfl rfl rfl (by kernel_rfl) (fun _ _ _ _ h => h) hK (fun w1 hS => op_pure hT rfl) ?_
  refine ga_take 6 rfl rfl rfl rfl (by kernel_rfl) (fun _ _ _ _ h => h) hK (fun w1 hS => op_pure hT rfl) ?_
  refine ga_take 7 rfl rfl rfl rfl (by kernel_rfl) (fun _ _ _ _ h => h) hK (fun w1 hS => op_fieldB 1 rfl Tryd.underlying54 rfl el3 rfl rfl) ?_
  refine ga_take 8 rfl rfl rfl rfl (by kernel_rfl) (fun _ _ _ _ h => h) hK (fun w1 hS => op_loadB 0 hT hS rfl rfl rfl rfl rfl rfl) ?_
  refine ga_take 9 rfl rfl rfl rfl (by kernel_rfl) (fun _ _ _ _ h => h) hK (fun w1 hS => (by first | exact op_fit hT rfl (by omega) | exact op_pure hT rfl)) ?_
  refine ga_take 10 rfl rfl rfl rfl (by kernel_rfl) (fun _ _ _ _ h => h) hK (fun w1 hS => op_pure hT rfl) ?_
  refine ga_done (by kernel_rfl) ?_
  refine hK2 _ _ ?_
  clear hK2; try clear K2
  refine gc_cond rfl rfl (fun c12 => ?_) (fun c12 => ?_)
  · try simp only [decide_eq_true_eq, decide_eq_false_iff_not, Bool.not_eq_true', Bool.not_eq_false', Int.not_lt, Int.not_le, Nat.not_lt, Nat.not_le, Bool.true_eq, Bool.false_eq, reduceCtorEq] at c12
    refine gc_region ?_
    refine gl_op rfl rfl rfl (op_pure hT rfl) ?_
    refine gl_op rfl rfl rfl (op_pure hT rfl) ?_
    refine gl_op rfl rfl rfl (op_pure hT rfl) ?_
    refine gl_op rfl rfl rfl (op_fieldB 1 rfl Tryd.underlying54 rfl el3 rfl rfl) ?_
    refine gl_op rfl rfl rfl (op_loadB 0 hT hS rfl rfl rfl rfl rfl rfl) ?_
    refine gl_callP rfl rfl rfl rfl Tryd.func54 rfl rfl rfl (fail_calls _ 10 j _) ?_
    rintro _ w18 ⟨rfl, hb18⟩
    refine .inr ⟨_, rfl, ?_⟩
    try simp only [x_then_panic, x_block_panic]
    refine gk_panic ?_; exact .inl ⟨_, _, by unfold tlV; rw [if_pos (by omega)], rfl, hS.eqv hb18⟩
  · try simp only [decide_eq_true_eq, decide_eq_false_iff_not, Bool.not_eq_true', Bool.not_eq_false', Int.not_lt, Int.not_le, Nat.not_lt, Nat.not_le, Bool.true_eq, Bool.false_eq, reduceCtorEq] at c12
    refine gc_skip ?_
    refine hK1 _ _ ?_
    clear hK1; try clear K1
    refine gc_seq fun K3 hK3 => ?_
    refine gc_seq fun K4 hK4 => ?_
    refine gc_anyS hS (by kernel_rfl) rfl fun nq2 hK => ?_
    have hS := hS.dr nq2
    refine ga_take 0 rfl rfl rfl rfl (by kernel_rfl) (fun _ _ _ _ h => h) hK (fun w1 hS => op_pure hT rfl) ?_
    refine ga_take 1 rfl rfl rfl rfl (by kernel_rfl) (fun _ _ _ _ h => h) hK (fun w1 hS => op_pure hT rfl) ?_
    refine ga_take 2 rfl rfl rfl rfl (by kernel_rfl) (fun _ _ _ _ h => h) hK (fun w1 hS => op_fieldB 0 rfl Tryd.underlying54 rfl el31 rfl rfl) ?_
    refine ga_take 3 rfl rfl rfl rfl (by kernel_rfl) (fun _ _ _ _ h => h) hK (fun w1 hS => op_loadB 0 hT hS rfl rfl rfl rfl rfl rfl) ?_
    refine ga_take 4 rfl rfl rfl rfl (by kernel_rfl) (fun _ _ _ _ h => h) hK (fun w1 hS => op_pure hT rfl) ?_
    refine ga_take 5 rfl rfl rfl rfl (by kernel_rfl) (fun _ _ _ _ h => h) hK (fun w1 hS => op_pure hT rfl) ?_
    refine ga_take 6 rfl rfl rfl rfl (by kernel_rfl) (fun _ _ _ _ h => h) hK (fun w1 hS => op_fieldB 1 rfl Tryd.underlying54 rfl el3 rfl rfl) ?_
    refine ga_take 7 rfl rfl rfl rfl (by kernel_rfl) (fun _ _ _ _ h => h) hK (fun w1 hS => op_loadB 0 hT hS rfl rfl rfl rfl rfl rfl) ?_
    refine ga_take 8 rfl rfl rfl rfl (by kernel_rfl) (fun _ _ _ _ h => h) hK (fun w1 hS => op_slice_h hT el5 rfl rfl rfl rfl (by first | omega | (simp; omega)) (by first | omega | (simp; omega))) ?_
    refine ga_take 11 rfl rfl rfl rfl (by kernel_rfl) (fun _ _ _ _ h => h) hK (fun w1 hS => op_pure hT rfl) ?_
    refine ga_take 12 rfl rfl rfl rfl (by kernel_rfl) (fun _ _ _ _ h => h) hK (fun w1 hS => op_pure hT rfl) ?_
    refine ga_take 13 rfl rfl rfl rfl (by kernel_rfl) (fun _ _ _ _ h => h) hK (fun w1 hS => op_fieldB 0 rfl Tryd.underlying54 rfl el31 rfl rfl) ?_
    refine ga_take 14 rfl rfl rfl rfl (by kernel_rfl) (fun _ _ _ _ h => h) hK (fun w1 hS => op_loadB 0 hT hS rfl rfl rfl rfl rfl rfl) ?_
    refine ga_take 15 rfl rfl rfl rfl (by kernel_rfl) (fun _ _ _ _ h => h) hK (fun w1 hS => op_pure hT rfl) ?_
    refine ga_take 16 rfl rfl rfl rfl (by kernel_rfl) (fun _ _ _ _ h => h) hK (fun w1 hS => op_pure hT rfl) ?_
    refine ga_take 17 rfl rfl rfl rfl (by kernel_rfl) (fun _ _ _ _ h => h) hK (fun w1 hS => op_fieldB 1 rfl Tryd.underlying54 rfl el3 rfl rfl) ?_
    refine ga_take 18 rfl rfl rfl rfl (by kernel_rfl) (fun _ _ _ _ h => h) hK (fun w1 hS => op_loadB 0 hT hS rfl rfl rfl rfl rfl rfl) ?_
    refine ga_take 19 rfl rfl rfl rfl (by kernel_rfl) (fun _ _ _ _ h => h) hK (fun w1 hS => op_pure hT rfl) ?_
    refine ga_take 20 rfl rfl rfl rfl (by kernel_rfl) (fun _ _ _ _ h => h) hK (fun w1 hS => op_pure hT rfl) ?_
    refine ga_take 21 rfl rfl rfl rfl (by kernel_rfl) (fun _ _ _ _ h => h) hK (fun w1 hS => op_fieldB 1 rfl Tryd.underlying54 rfl el3 rfl rfl) ?_
    refine ga_take 22 rfl rfl rfl rfl (by kernel_rfl) (fun _ _ _ _ h => h) hK (fun w1 hS => op_loadB 0 hT hS rfl rfl rfl rfl rfl rfl) ?_
    refine ga_take 23 rfl rfl rfl rfl (by kernel_rfl) (fun _ _ _ _ h => h) hK (fun w1 hS => (by first | exact op_fit hT rfl (by omega) | exact op_pure hT rfl)) ?_
    refine ga_take 24 rfl rfl rfl rfl (by kernel_rfl) (fun _ _ _ _ h => h) hK (fun w1 hS => op_slice_lh hT el5 rfl rfl rfl rfl rfl (by first | omega | (simp; omega)) (by first | omega | (simp; omega)) (by first | omega | (simp; omega))) ?_
    refine ga_take 25 rfl rfl rfl rfl (by kernel_rfl) (fun _ _ _ _ h => h) hK (fun w1 hS => op_b2s hT (((hr hS).drop (k := j) (cap := c) (by omega) hc).take 4) rfl rfl rfl rfl rfl (by rw [List.length_take, List.length_drop]; omega)) ?_
    refine ga_one 9 (by kernel_rfl) rfl ?_
    refine gl_callf rfl rfl rfl rfl Tryd.func22 rfl rfl rfl (sealed_calls A j c (l.take j) _ ((hr hS).take j) (by rw [List.length_take]; omega) (by rw [List.length_take]; omega)) ?_
    rintro _ w28 ⟨A28, c28, rfl, hr28, hb28⟩
    refine ⟨_, rfl, ?_⟩
    have hS := hS.addRow hb28 hr28
    have hS := hS.moveIn 1
    refine gl_nil ?_
    refine ga_next (hS.erase 1) fun hK => ?_
    refine ga_one 10 (by kernel_rfl) rfl ?_
    refine gl_op rfl rfl rfl (op_b2s hT (hS.rdE (i := 1) rfl) rfl rfl rfl rfl rfl (by rfl)) ?_
    refine gl_nil ?_
    refine ga_next (hS.erase 1) fun hK => ?_
    refine ga_take 26 rfl rfl rfl rfl (by kernel_rfl) (fun _ _ _ _ h => h) hK (fun w1 hS => op_pure hT rfl) ?_
    refine ga_done (by kernel_rfl) ?_
    refine hK4 _ _ ?_
    clear hK4; try clear K4
    refine gc_cond rfl rfl (fun c45 => ?_) (fun c45 => ?_)
    · try simp only [decide_eq_true_eq, decide_eq_false_iff_not, Bool.not_eq_true', Bool.not_eq_false', Int.not_lt, Int.not_le, Nat.not_lt, Nat.not_le, Bool.true_eq, Bool.false_eq, reduceCtorEq] at c45
      refine gc_region ?_
      refine gl_op rfl rfl rfl (op_pure hT rfl) ?_
      refine gl_op rfl rfl rfl (op_pure hT rfl) ?_
      refine gl_op rfl rfl rfl (op_pure hT rfl) ?_
      refine gl_op rfl rfl rfl (op_fieldB 1 rfl Tryd.underlying54 rfl el3 rfl rfl) ?_
      refine gl_op rfl rfl rfl (op_loadB 0 hT hS rfl rfl rfl rfl rfl rfl) ?_
      refine gl_callP rfl rfl rfl rfl Tryd.func54 rfl rfl rfl (fail_calls _ 16 j _) ?_
      rintro _ w51 ⟨rfl, hb51⟩
      refine .inr ⟨_, rfl, ?_⟩
      try simp only [x_then_panic, x_block_panic]
      refine gk_panic ?_; exact .inl ⟨_, _, by unfold tlV; rw [if_neg (by omega), if_pos (fun h => c45 (by rw [Int.toNat_natCast] at h; rw [h]))], rfl, (hS.erase 1).eqv hb51⟩
    · try simp only [decide_eq_true_eq, decide_eq_false_iff_not, Bool.not_eq_true', Bool.not_eq_false', Int.not_lt, Int.not_le, Nat.not_lt, Nat.not_le, Bool.true_eq, Bool.false_eq, reduceCtorEq] at c45
      have htl : le4 (crcV (l.take ((j : Int)).toNat)) = (l.drop ((j : Int)).toNat).take 4 := by rw [Int.toNat_natCast]; exact strB_inj c45
      refine gc_skip ?_
      refine hK3 _ _ ?_
      clear hK3; try clear K3
      refine gc_seq fun K5 hK5 => ?_
      refine gc_anyS hS (by kernel_rfl) rfl fun nq4 hK => ?_
      have hS := hS.dr nq4
      refine ga_take 0 rfl rfl rfl rfl (by kernel_rfl) (fun _ _ _ _ h => h) hK (fun w1 hS => op_pure hT rfl) ?_
      refine ga_take 1 rfl rfl rfl rfl (by kernel_rfl) (fun _ _ _ _ h => h) hK (fun w1 hS => op_pure hT rfl) ?_
      refine ga_take 2 rfl rfl rfl rfl (by kernel_rfl) (fun _ _ _ _ h => h) hK (fun w1 hS => op_fieldB 0 rfl Tryd.underlying54 rfl el31 rfl rfl) ?_
      refine ga_take 3 rfl rfl rfl rfl (by kernel_rfl) (fun _ _ _ _ h => h) hK (fun w1 hS => op_loadB 0 hT hS rfl rfl rfl rfl rfl rfl) ?_
      refine ga_take 4 rfl rfl rfl rfl (by kernel_rfl) (fun _ _ _ _ h => h) hK (fun w1 hS => op_pure hT rfl) ?_
      refine ga_take 5 rfl rfl rfl rfl (by kernel_rfl) (fun _ _ _ _ h => h) hK (fun w1 hS => op_pure hT rfl) ?_
      refine ga_take 6 rfl rfl rfl rfl (by kernel_rfl) (fun _ _ _ _ h => h) hK (fun w1 hS => op_pure hT rfl) ?_
      refine ga_take 7 rfl rfl rfl rfl (by kernel_rfl) (fun _ _ _ _ h => h) hK (fun w1 hS => op_fieldB 1 rfl Tryd.underlying54 rfl el3 rfl rfl) ?_
      refine ga_take 8 rfl rfl rfl rfl (by kernel_rfl) (fun _ _ _ _ h => h) hK (fun w1 hS => op_loadB 0 hT hS rfl rfl rfl rfl rfl rfl) ?_
      refine ga_take 9 rfl rfl rfl rfl (by kernel_rfl) (fun _ _ _ _ h => h) hK (fun w1 hS => (by first | exact op_fit hT rfl (by omega) | exact op_pure hT rfl)) ?_
      refine ga_take 10 rfl rfl rfl rfl (by kernel_rfl) (fun _ _ _ _ h => h) hK (fun w1 hS => op_pure hT rfl) ?_
      refine ga_done (by kernel_rfl) ?_
      refine hK5 _ _ ?_
      clear hK5; try clear K5
      refine gc_cond rfl rfl (fun c62 => ?_) (fun c62 => ?_)
      · try simp only [decide_eq_true_eq, decide_eq_false_iff_not, Bool.not_eq_true', Bool.not_eq_false', Int.not_lt, Int.not_le, Nat.not_lt, Nat.not_le, Bool.true_eq, Bool.false_eq, reduceCtorEq] at c62
        refine gc_region ?_
        refine gl_op rfl rfl rfl (op_pure hT rfl) ?_
        refine gl_op rfl rfl rfl (op_pure hT rfl) ?_
        refine gl_op rfl rfl rfl (op_pure hT rfl) ?_
        refine gl_op rfl rfl rfl (op_fieldB 1 rfl Tryd.underlying54 rfl el3 rfl rfl) ?_
        refine gl_op rfl rfl rfl (op_loadB 0 hT hS rfl rfl rfl rfl rfl rfl) ?_
        first | refine gl_fit hT rfl rfl rfl rfl (by omega) ?_ | refine gl_op rfl rfl rfl (op_pure hT rfl) ?_
        refine gl_callP rfl rfl rfl rfl Tryd.func54 rfl rfl rfl (fail_calls _ 82 (j + 4) _) ?_
        rintro _ w69 ⟨rfl, hb69⟩
        refine .inr ⟨_, rfl, ?_⟩
        try simp only [x_then_panic, x_block_panic]
        refine gk_panic ?_; exact .inl ⟨_, _, by unfold tlV; rw [if_neg (by omega), if_neg (fun h => h htl), if_pos (by omega)], rfl, (hS.erase 1).eqv hb69⟩
      · try simp only [decide_eq_true_eq, decide_eq_false_iff_not, Bool.not_eq_true', Bool.not_eq_false', Int.not_lt, Int.not_le, Nat.not_lt, Nat.not_le, Bool.true_eq, Bool.false_eq, reduceCtorEq] at c62
        refine gc_skip ?_
        refine gk_end0 rfl ?_
        exact .inr ⟨by unfold tlV; rw [if_neg (by omega), if_neg (fun h => h htl), if_neg (by omega)], rfl, hS.erase 1⟩
theorem given_calls (x at_ : Int) (w : World) : Calls Tryd.prog 49 ⟨[pnV x at_]⟩ w fun en w' => en = .returned (.tuple #[.int .i64 x, .int .i64 at_]) ∧ Below w.heap.size w w' := by
  refine gc_enter (N := 18) Tryd.func49 rfl rfl rfl [(0, _)] rfl ?_
  have hS := St.start w
  refine gc_seq fun K1 hK1 => ?_
  refine gc_region ?_
  refine gl_op rfl rfl rfl (op_pure hT rfl) ?_
  refine gl_op rfl rfl rfl (op_pure hT rfl) ?_
  refine gl_nil ?_
  refine hK1 _ _ ?_
  clear hK1; try clear K1
  refine gc_seq fun K2 hK2 => ?_
  refine gc_region ?_
  refine gl_op rfl rfl rfl (op_pure hT rfl) ?_
  refine gl_op rfl rfl rfl (op_assertT rfl Tryd.underlying130 rfl) ?_
  refine gl_op rfl rfl rfl (op_pure hT rfl) ?_
  refine gl_op rfl rfl rfl (op_pure hT rfl) ?_
  refine gl_op rfl rfl rfl (op_pure hT rfl) ?_
  refine gl_alloc el130 hS rfl rfl rfl rfl fun g4 w4 hS => ?_
  refine gl_storeA 0 hS el130 rfl rfl rfl rfl rfl rfl rfl rfl rfl fun wcode_go_34 hS => ?_
  refine gl_op rfl rfl rfl (op_pure hT rfl) ?_
  refine gl_nil ?_
  refine hK2 _ _ ?_
  clear hK2; try clear K2
  refine gc_seq fun K3 hK3 => ?_
  refine gc_seq fun K4 hK4 => ?_
  refine gc_region ?_
  refine gl_op rfl rfl rfl (op_pure hT rfl) ?_
  refine gl_op rfl rfl rfl (op_pure hT rfl) ?_
  refine gl_nil ?_
  refine hK4 _ _ ?_
  clear hK4; try clear K4
  refine gc_cond_f rfl ?_
  refine gc_skip ?_
  refine hK3 _ _ ?_
  clear hK3; try clear K3
  refine gc_seq fun K5 hK5 => ?_
  refine gc_anyS hS (by kernel_rfl) rfl fun nq4 hK => ?_
  have hS := hS.dr nq4
  refine ga_take 0 rfl rfl rfl rfl (by kernel_rfl) (fun _ _ _ _ h => h) hK (fun w1 hS => op_fieldB 0 rfl Tryd.underlying130 rfl el34 rfl rfl) ?_
  refine ga_take 1 rfl rfl rfl rfl (by kernel_rfl) (fun _ _ _ _ h => h) hK (fun w1 hS => op_loadB 0 hT hS rfl rfl rfl rfl rfl rfl) ?_
  refine ga_take 2 rfl rfl rfl rfl (by kernel_rfl) (fun _ _ _ _ h => h) hK (fun w1 hS => op_fieldB 1 rfl Tryd.underlying130 rfl el3 rfl rfl) ?_
  refine ga_take 3 rfl rfl rfl rfl (by kernel_rfl) (fun _ _ _ _ h => h) hK (fun w1 hS => op_loadB 0 hT hS rfl rfl rfl rfl rfl rfl) ?_
  refine ga_take 4 rfl rfl rfl rfl (by kernel_rfl) (fun _ _ _ _ h => h) hK (fun w1 hS => op_pure hT rfl) ?_
  refine ga_take 5 rfl rfl rfl rfl (by kernel_rfl) (fun _ _ _ _ h => h) hK (fun w1 hS => op_pure hT rfl) ?_
  refine ga_done (by kernel_rfl) ?_
  refine hK5 _ _ ?_
  clear hK5; try clear K5
  refine gc_ret ?_
  try simp only [x_then_ret, x_block_ret]
  refine gk_ret2 rfl rfl rfl ?_
  exact ⟨rfl, hS.below⟩
theorem op_neqNil {P : Program} {N : Nt} {e : Env} {w : World} {o : Oper} {t yt d : TypeId} {x : Operand} {v : Value} (ho : o.op = .binOp .neq t x (.const .nilIface) yt) (ht : P.underlying t = some (.interface (P.methodsAt t))) (hx : evO e x = some (.iface d v)) : OpR P N e w o (.bool true) := by
  intro n a ha
  have hc : a.eval (.const .nilIface) = .nilIface := rfl
  simp only [execOp, ho, ha.eval hx, hc]
  simp [run_neq_held_nil _ t d v ht, eqGuard, Sem.run_bind, Sem.run_pure]
theorem op_neqNil0 {P : Program} {N : Nt} {e : Env} {w : World} {o : Oper} {t yt : TypeId} {x : Operand} (ho : o.op = .binOp .neq t x (.const .nilIface) yt) (ht : P.underlying t = some (.interface (P.methodsAt t))) (hx : evO e x = some .nilIface) : OpR P N e w o (.bool false) := by
  intro n a ha
  have hc : a.eval (.const .nilIface) = .nilIface := rfl
  simp only [execOp, ho, ha.eval hx, hc]
  simp [run_neq_nil_nil _ t ht, eqGuard, Sem.run_bind, Sem.run_pure]
theorem gk_endS {P : Program} {N : Nt} {e : Env} {w : World} {fn : Func} {R : Ending → FrameMode → World → Prop} {c₀ : Frame} {cs cs1 : List Frame} {u' : FrameMode} (hr : fn.results = #[]) (hcs : cs1 = { c₀ with mode := u' } :: cs) (h : R (.returned (.tuple #[])) u' w) (hds : N.ds = [] := by rfl) :
    GK N e (fun a w => bodyPostS P fn c₀ cs R .normal a cs1 w) w := fun a ha => ⟨ha.defers.trans hds, u', hcs, _, results_none hr _ _ _, h⟩
theorem Fr.of {N : Nt} {a : Act} {e : Env} (hd : a.defers = N.ds) (hs : a.tmps.size = N.n) (h : ∀ p ∈ e, a.tmps[p.1]? = some p.2) : Fr N a e := by
  refine ⟨hd, hs, fun t v hl => ?_⟩
  induction e with
  | nil => simp [look] at hl
  | cons p r ih =>
    obtain ⟨k, u⟩ := p
    rcases look_cons hl with ⟨rfl, rfl⟩ | ⟨_, hl⟩
    · exact h _ (List.mem_cons_self ..)
    · exact ih (fun q hq => h q (List.mem_cons_of_mem _ hq)) hl

set_option maxRecDepth 100000 in
theorem catchP_calls {B : Nat} {w0 : World} (ge ga : Nat) (x at_ e0 a0 : Int) (older : List PanicEntry) (L : List It) (w : World) (hS0 : St B w0 w (.blk ge 34 [.int .i64 e0] :: .blk ga 3 [.int .i64 a0] :: L)) :
    CallsD Tryd.prog 58 #[.pointer (some ⟨ge, 0, none⟩), .pointer (some ⟨ga, 0, none⟩)] (.panicking ({ v := pnV x at_, recovered := false } :: older)) w fun en u' w' =>
      en = .returned (.tuple #[]) ∧ u' = .panicking ({ v := pnV x at_, recovered := true } :: older) ∧ St B w0 w' (.blk ge 34 [.int .i64 x] :: .blk ga 3 [.int .i64 at_] :: L) := by
  refine callsD_of_wpS Tryd.func58 rfl fun c₀ cs hu => ?_
  refine wpS_seq (wpS_region ?_)
  simp [wpOpsS, go_sem, recoverD, hu, pnV, Tryd.ntmps58, Exit.thenS]
  refine wpS_of_wp (gc_of (N := ⟨11, []⟩) (e := [(2, pnV x at_), (0, .pointer (some ⟨ge, 0, none⟩)), (1, .pointer (some ⟨ga, 0, none⟩))]) (Fr.of rfl (by simp) (by simp [pnV])) ?_)
  have hS := hS0
  refine gc_seq fun K1 hK1 => ?_
  refine gc_region ?_
  refine gl_op rfl rfl rfl (op_pure hT rfl) ?_
  refine gl_op rfl rfl rfl (op_neqNil rfl Tryd.underlying20 rfl) ?_
  refine gl_nil ?_
  refine hK1 _ _ ?_
  clear hK1; try clear K1
  refine gc_cond_t rfl ?_
  refine gc_region ?_
  refine gl_op rfl rfl rfl (op_pure hT rfl) ?_
  refine gl_callf rfl rfl rfl rfl Tryd.func49 rfl rfl rfl (given_calls x at_ _) ?_
  rintro _ w8 ⟨rfl, hb8⟩
  refine ⟨_, rfl, ?_⟩
  have hS := hS.grown hb8
  refine gl_op rfl rfl rfl (op_pure hT rfl) ?_
  refine gl_op rfl rfl rfl (op_pure hT rfl) ?_
  refine gl_op rfl rfl rfl (op_pure hT rfl) ?_
  refine gl_store 0 hS el34.cellsOf.1 el34.cellsOf.2 rfl rfl rfl rfl rfl rfl rfl rfl fun wcode_go_300 hS => ?_
  refine gl_store 1 hS el3.cellsOf.1 el3.cellsOf.2 rfl rfl rfl rfl rfl rfl rfl rfl fun wcode_go_300 hS => ?_
  refine gl_nil ?_
  refine gk_endS rfl rfl ⟨rfl, rfl, hS⟩
set_option maxRecDepth 100000 in
theorem catchP_idle (ge ga : Nat) (w : World) :
    CallsD Tryd.prog 58 #[.pointer (some ⟨ge, 0, none⟩), .pointer (some ⟨ga, 0, none⟩)] .returning w fun en u' w' =>
      en = .returned (.tuple #[]) ∧ u' = .returning ∧ w' = w := by
  refine callsD_of_wpS Tryd.func58 rfl fun c₀ cs hu => ?_
  refine wpS_seq (wpS_region ?_)
  simp [wpOpsS, go_sem, recoverD, hu, Tryd.ntmps58, Exit.thenS]
  refine wpS_of_wp (gc_of (N := ⟨11, []⟩) (e := [(2, .nilIface), (0, .pointer (some ⟨ge, 0, none⟩)), (1, .pointer (some ⟨ga, 0, none⟩))]) (Fr.of rfl (by simp) (by simp)) ?_)
  refine gc_seq fun K1 hK1 => ?_
  refine gc_region ?_
  refine gl_op rfl rfl rfl (op_pure hT rfl) ?_
  refine gl_op rfl rfl rfl (op_neqNil0 rfl Tryd.underlying20 rfl) ?_
  refine gl_nil ?_
  refine hK1 _ _ ?_
  clear hK1; try clear K1
  refine gc_cond_f rfl ?_
  refine gc_skip ?_
  refine gk_endS rfl (by cases c₀; simp_all) ⟨rfl, rfl, rfl⟩
end Go.Proofs.YtnomlloaahoceaaDoor

