/- Contracts of functions that CodeProps reaches, and words to say them. No condition. -/
import Derived.Test.YtnomlloaahoceaaDoorZ06
import Derived.Test.YtnomlloaahoceaaDoorZ05
import Derived.Test.YtnomlloaahoceaaDoorZ02
import Derived.Test.YtnomlloaahoceaaDoorZ03
/- Contracts of what reads frames. No condition. -/
namespace Go.Proofs.YtnomlloaahoceaaDoor
open Go.RowKit
set_option linter.unusedVariables false
set_option linter.unusedSimpArgs false
end Go.Proofs.YtnomlloaahoceaaDoor


/- Texts with their length ahead, and the walk of WireTexts. No condition. -/
namespace Go.Proofs.YtnomlloaahoceaaDoor
open Go.RowKit
set_option linter.unusedVariables false
set_option linter.unusedSimpArgs false
end Go.Proofs.YtnomlloaahoceaaDoor


/- The contract of the document's ReadFrame. No condition. -/
namespace Go.Proofs.YtnomlloaahoceaaDoor
open Go.RowKit
set_option linter.unusedVariables false
set_option linter.unusedSimpArgs false
end Go.Proofs.YtnomlloaahoceaaDoor


/- The seat's structs and arrays. No condition. -/
namespace Go.Proofs.YtnomlloaahoceaaDoor
theorem plan25 : plan Tryd.prog 25 = some ([.slice none 0 0, .slice none 0 0, .int .i64 0, .slice none 0 0, .int .i64 0, .int .i64 0, .int .i64 0], [(0, 1), (1, 1), (2, 1), (3, 1), (4, 1), (5, 1), (6, 1)]) := by kernel_rfl
theorem plan29 : plan Tryd.prog 29 = some ([.slice none 0 0, .slice none 0 0, .int .i64 0, .slice none 0 0, .int .i64 0, .int .i64 0, .int .i64 0], [(0, 1), (1, 1), (2, 1), (3, 1), (4, 1), (5, 1), (6, 1)]) := by kernel_rfl
theorem plan54 : plan Tryd.prog 54 = some ([.slice none 0 0, .int .i64 0], [(0, 1), (1, 1)]) := by kernel_rfl
theorem plan61 : plan Tryd.prog 61 = some ([.int .i64 0, .int .i64 0, .int .i64 0], [(0, 1), (1, 1), (2, 1)]) := by kernel_rfl
theorem plan65 : plan Tryd.prog 65 = some ([.int .i64 0, .int .i64 0, .int .i64 0, .int .i64 0, .int .i64 0, .int .i64 0, .int .i64 0, .int .i64 0, .int .i64 0, .float .f64 0, .slice none 0 0, .slice none 0 0, .slice none 0 0, .slice none 0 0], [(0, 1), (1, 1), (2, 1), (3, 1), (4, 1), (5, 1), (6, 1), (7, 1), (8, 1), (9, 1), (10, 1), (11, 1), (12, 1), (13, 1)]) := by kernel_rfl
theorem plan69 : plan Tryd.prog 69 = some ([.int .i64 0, .int .i64 0, .int .i64 0, .slice none 0 0, .slice none 0 0], [(0, 3), (3, 1), (4, 1)]) := by kernel_rfl
theorem plan108 : plan Tryd.prog 108 = some ([.slice none 0 0, .int .i64 0, .int .i64 0, .int .i64 0, .int .i64 0, .slice none 0 0, .slice none 0 0, .slice none 0 0, .int .i64 0], [(0, 2), (2, 5), (7, 1), (8, 1)]) := by kernel_rfl
theorem plan130 : plan Tryd.prog 130 = some ([.int .i64 0, .int .i64 0], [(0, 1), (1, 1)]) := by kernel_rfl
theorem plan164 : plan Tryd.prog 164 = some ([.int .i64 0, .int .i64 0], [(0, 1), (1, 1)]) := by kernel_rfl
theorem plan168 : plan Tryd.prog 168 = some ([.int .i64 0, .int .i64 0, .int .i64 0, .int .i64 0, .int .i64 0, .int .i64 0, .int .i64 0, .int .i64 0], [(0, 1), (1, 1), (2, 1), (3, 1), (4, 1), (5, 1), (6, 1), (7, 1)]) := by kernel_rfl
end Go.Proofs.YtnomlloaahoceaaDoor


/- Contracts of package code: how a reader gives up, and what it reads. No condition. -/
namespace Go.Proofs.YtnomlloaahoceaaDoor
open Go.RowKit
set_option linter.unusedVariables false
set_option linter.unusedSimpArgs false
def pnV (x at_ : Int) : Value := .iface 130 (.agg ⟨[.int .i64 x, .int .i64 at_]⟩)
def pn (x at_ : Int) : List PanicEntry := [{ v := pnV x at_, recovered := false }]
theorem fail_calls (p : Value) (x at_ : Int) (w : World) : Calls Tryd.prog 54 ⟨[p, .int .i64 x, .int .i64 at_]⟩ w fun en w' => en = .panicked (pn x at_) ∧ Eqv w w' := by
  refine gc_enter (N := 10) Tryd.func54 rfl rfl rfl [(0, _), (1, _), (2, _)] rfl ?_
  refine gc_region ?_
  refine gl_op rfl rfl rfl (op_pure hT rfl) ?_
  refine gl_op rfl rfl rfl (op_pure hT rfl) ?_
  refine gl_op rfl rfl rfl (op_buildG rfl plan130 rfl rfl) ?_
  refine gl_op rfl rfl rfl (op_mkIface rfl Tryd.underlying130 rfl) ?_
  refine gl_panic rfl rfl rfl ?_
  try simp only [x_then_panic, x_block_panic]
  refine gk_panic ?_
  exact ⟨rfl, Eqv.refl _⟩
theorem check_calls8 (p : Value) (x at_ : Int) (w : World) : Calls Tryd.prog 53 ⟨[p, .int .i64 x, .int .i64 at_]⟩ w fun en w' => (x ≠ 0 ∧ en = .panicked (pn x at_) ∧ Eqv w w') ∨ (x = 0 ∧ en = .returned (.tuple #[]) ∧ Eqv w w') := by
  refine gc_enter (N := 12) Tryd.func53 rfl rfl rfl [(0, _), (1, _), (2, _)] rfl ?_
  refine gc_seq fun K1 hK1 => ?_
  refine gc_region ?_
  refine gl_op rfl rfl rfl (op_pure hT rfl) ?_
  refine gl_op rfl rfl rfl (op_pure hT rfl) ?_
  refine gl_nil ?_
  refine hK1 _ _ ?_
  clear hK1; try clear K1
  refine gc_cond rfl rfl (fun c7 => ?_) (fun c7 => ?_)
  · try simp only [decide_eq_true_eq, decide_eq_false_iff_not, Bool.not_eq_true', Bool.not_eq_false', Int.not_lt, Int.not_le, Nat.not_lt, Nat.not_le, Bool.true_eq, Bool.false_eq, reduceCtorEq] at c7
    refine gc_region ?_
    refine gl_op rfl rfl rfl (op_pure hT rfl) ?_
    refine gl_op rfl rfl rfl (op_pure hT rfl) ?_
    refine gl_op rfl rfl rfl (op_pure hT rfl) ?_
    refine gl_callP rfl rfl rfl rfl Tryd.func54 rfl rfl rfl (fail_calls p x at_ _) ?_
    rintro _ w11 ⟨rfl, hb11⟩
    refine .inr ⟨_, rfl, ?_⟩
    try simp only [x_then_panic, x_block_panic]
    refine gk_panic ?_; exact .inl ⟨c7, rfl, hb11⟩
  · try simp only [decide_eq_true_eq, decide_eq_false_iff_not, Bool.not_eq_true', Bool.not_eq_false', Int.not_lt, Int.not_le, Nat.not_lt, Nat.not_le, Bool.true_eq, Bool.false_eq, reduceCtorEq] at c7
    refine gc_skip ?_
    refine gk_end0 rfl ?_
    exact .inr ⟨by omega, rfl, Eqv.refl _⟩
abbrev Ex (α : Type) := Except (Int × Int) α
def rU (l : List UInt8) (at_ : Int) : Ex (Int × Int) := if (readUV l at_).2.2 = 0 then .ok ((readUV l at_).1, (readUV l at_).2.1) else .error ((readUV l at_).2.2, at_)
def rF (l : List UInt8) (at_ : Int) : Ex (Nat × Int) := if (readFloatV l at_).2.2 = 0 then .ok ((readFloatV l at_).1, (readFloatV l at_).2.1) else .error ((readFloatV l at_).2.2, at_)
def rFs (l : List UInt8) : Nat → Int → Ex (List Nat × Int)
  | 0, at_ => .ok ([], at_)
  | n + 1, at_ => match rF l at_ with | .error x => .error x | .ok (u, a) => match rFs l n a with | .error x => .error x | .ok (us, b) => .ok (u :: us, b)
@[reducible] def cuC (A : Option Addr) (n c : Nat) (at_ : Int) (cs : List Value) : List Value := .slice A n c :: .int .i64 at_ :: cs
abbrev Rdb (B : Nat) (w0 : World) (ok : Nat → Prop) (A : Option Addr) (l : List UInt8) : Prop := ∀ {w1 : World} {L1 : List It}, St B w0 w1 L1 → RdE w1 ok uB A l
theorem cUint_calls {B : Nat} {w0 : World} (g : Nat) (bt : TypeId) (A : Option Addr) (n c : Nat) (l : List UInt8) (at_ : Int) (cs : List Value) (L : List It) (w : World) (hS0 : St B w0 w (.blk g bt (cuC A n c at_ cs) :: L)) {ok : Nat → Prop} (hr : Rdb B w0 ok A l) (hn : n = l.length) (hb : l.length ≤ 1048576) :
    Calls Tryd.prog 51 ⟨[.pointer (some ⟨g, 0, none⟩)]⟩ w fun en w' => (∃ x y, rU l at_ = .error (x, y) ∧ en = .panicked (pn x y) ∧ St B w0 w' (.blk g bt (cuC A n c at_ cs) :: L)) ∨
      (∃ v a, rU l at_ = .ok (v, a) ∧ en = .returned (.int .i64 v) ∧ St B w0 w' (.blk g bt (cuC A n c a cs) :: L)) := by
  subst hn
  refine gc_enter (N := 31) Tryd.func51 rfl rfl rfl [(0, _)] rfl ?_
  have hS := St.start w
  have hS := hS0
  refine gc_seq fun K1 hK1 => ?_
  refine gc_region ?_
  refine gl_op rfl rfl rfl (op_pure hT rfl) ?_
  refine gl_nil ?_
  refine hK1 _ _ ?_
  clear hK1; try clear K1
  refine gc_seq fun K2 hK2 => ?_
  refine gc_anyS hS (by kernel_rfl) rfl fun nq1 hK => ?_
  have hS := hS.dr nq1
  refine ga_take 0 rfl rfl rfl rfl (by kernel_rfl) (fun _ _ _ _ h => h) hK (fun w1 hS => op_pure hT rfl) ?_
  refine ga_take 1 rfl rfl rfl rfl (by kernel_rfl) (fun _ _ _ _ h => h) hK (fun w1 hS => op_pure hT rfl) ?_
  refine ga_take 2 rfl rfl rfl rfl (by kernel_rfl) (fun _ _ _ _ h => h) hK (fun w1 hS => op_fieldB 0 rfl Tryd.underlying54 rfl el31 rfl rfl) ?_
  refine ga_take 3 rfl rfl rfl rfl (by kernel_rfl) (fun _ _ _ _ h => h) hK (fun w1 hS => op_loadB 0 hT hS rfl rfl rfl rfl rfl rfl) ?_
  refine ga_take 4 rfl rfl rfl rfl (by kernel_rfl) (fun _ _ _ _ h => h) hK (fun w1 hS => op_pure hT rfl) ?_
  refine ga_take 5 rfl rfl rfl rfl (by kernel_rfl) (fun _ _ _ _ h => h) hK (fun w1 hS => op_pure hT rfl) ?_
  refine ga_take 6 rfl rfl rfl rfl (by kernel_rfl) (fun _ _ _ _ h => h) hK (fun w1 hS => op_fieldB 1 rfl Tryd.underlying54 rfl el3 rfl rfl) ?_
  refine ga_take 7 rfl rfl rfl rfl (by kernel_rfl) (fun _ _ _ _ h => h) hK (fun w1 hS => op_loadB 0 hT hS rfl rfl rfl rfl rfl rfl) ?_
  refine ga_one 8 (by kernel_rfl) rfl ?_
  refine gl_callf rfl rfl rfl rfl Tryd.func75 rfl rfl rfl (ReadUint_calls A c l at_ _ (hr hS) (by omega)) ?_
  rintro _ _ ⟨rfl, n15, rfl⟩
  refine ⟨_, rfl, ?_⟩
  have hS := hS.dr n15
  refine gl_nil ?_
  refine ga_next hS fun hK => ?_
  refine ga_take 9 rfl rfl rfl rfl (by kernel_rfl) (fun _ _ _ _ h => h) hK (fun w1 hS => op_pure hT rfl) ?_
  refine ga_take 10 rfl rfl rfl rfl (by kernel_rfl) (fun _ _ _ _ h => h) hK (fun w1 hS => op_pure hT rfl) ?_
  refine ga_take 11 rfl rfl rfl rfl (by kernel_rfl) (fun _ _ _ _ h => h) hK (fun w1 hS => op_pure hT rfl) ?_
  refine ga_take 12 rfl rfl rfl rfl (by kernel_rfl) (fun _ _ _ _ h => h) hK (fun w1 hS => op_pure hT rfl) ?_
  refine ga_take 13 rfl rfl rfl rfl (by kernel_rfl) (fun _ _ _ _ h => h) hK (fun w1 hS => op_pure hT rfl) ?_
  refine ga_take 14 rfl rfl rfl rfl (by kernel_rfl) (fun _ _ _ _ h => h) hK (fun w1 hS => op_pure hT rfl) ?_
  refine ga_take 15 rfl rfl rfl rfl (by kernel_rfl) (fun _ _ _ _ h => h) hK (fun w1 hS => op_pure hT rfl) ?_
  refine ga_done (by kernel_rfl) ?_
  refine hK2 _ _ ?_
  clear hK2; try clear K2
  refine gc_seq fun K3 hK3 => ?_
  refine gc_region ?_
  refine gl_op rfl rfl rfl (op_pure hT rfl) ?_
  refine gl_op rfl rfl rfl (op_pure hT rfl) ?_
  refine gl_op rfl rfl rfl (op_pure hT rfl) ?_
  refine gl_op rfl rfl rfl (op_pure hT rfl) ?_
  refine gl_op rfl rfl rfl (op_fieldB 1 rfl Tryd.underlying54 rfl el3 rfl rfl) ?_
  refine gl_op rfl rfl rfl (op_loadB 0 hT hS rfl rfl rfl rfl rfl rfl) ?_
  refine gl_callP rfl rfl rfl rfl Tryd.func53 rfl rfl rfl (check_calls8 _ (readUV l at_).2.2 at_ _) ?_
  rintro _ w25 (⟨hx25, rfl, hb25⟩ | ⟨hx25, rfl, hb25⟩)
  · refine .inr ⟨_, rfl, ?_⟩
    try simp only [x_then_panic, x_block_panic]
    refine gk_panic ?_
    exact .inl ⟨_, _, by unfold rU; rw [if_neg hx25], rfl, hS.eqv hb25⟩
  refine .inl ⟨_, rfl, ?_⟩
  have hS := hS.eqv hb25
  refine gl_nil ?_
  refine hK3 _ _ ?_
  clear hK3; try clear K3
  refine gc_seq fun K4 hK4 => ?_
  refine gc_region ?_
  refine gl_op rfl rfl rfl (op_pure hT rfl) ?_
  refine gl_op rfl rfl rfl (op_pure hT rfl) ?_
  refine gl_op rfl rfl rfl (op_pure hT rfl) ?_
  refine gl_op rfl rfl rfl (op_fieldB 1 rfl Tryd.underlying54 rfl el3 rfl rfl) ?_
  refine gl_store 0 hS el3.cellsOf.1 el3.cellsOf.2 rfl rfl rfl rfl rfl rfl rfl rfl fun wcode_go_44 hS => ?_
  refine gl_nil ?_
  refine hK4 _ _ ?_
  clear hK4; try clear K4
  refine gc_seq fun K5 hK5 => ?_
  refine gc_region ?_
  refine gl_op rfl rfl rfl (op_pure hT rfl) ?_
  refine gl_op rfl rfl rfl (op_pure hT rfl) ?_
  refine gl_nil ?_
  refine hK5 _ _ ?_
  clear hK5; try clear K5
  refine gc_ret ?_
  try simp only [x_then_ret, x_block_ret]
  refine gk_ret1 rfl rfl ?_
  exact .inr ⟨_, _, by unfold rU; rw [if_pos hx25], rfl, hS⟩
theorem cFloat_calls {B : Nat} {w0 : World} (g : Nat) (bt : TypeId) (A : Option Addr) (n c : Nat) (l : List UInt8) (at_ : Int) (cs : List Value) (L : List It) (w : World) (hS0 : St B w0 w (.blk g bt (cuC A n c at_ cs) :: L)) {ok : Nat → Prop} (hr : Rdb B w0 ok A l) (hn : n = l.length) (hb : l.length ≤ 1048576) (hmin : -9223372036854775808 ≤ at_) :
    Calls Tryd.prog 76 ⟨[.pointer (some ⟨g, 0, none⟩)]⟩ w fun en w' => (∃ x y, rF l at_ = .error (x, y) ∧ en = .panicked (pn x y) ∧ St B w0 w' (.blk g bt (cuC A n c at_ cs) :: L)) ∨
      (∃ v a, rF l at_ = .ok (v, a) ∧ en = .returned (.float .f64 v) ∧ St B w0 w' (.blk g bt (cuC A n c a cs) :: L)) := by
  subst hn
  refine gc_enter (N := 31) Tryd.func76 rfl rfl rfl [(0, _)] rfl ?_
  have hS := St.start w
  have hS := hS0
  refine gc_seq fun K1 hK1 => ?_
  refine gc_region ?_
  refine gl_op rfl rfl rfl (op_pure hT rfl) ?_
  refine gl_nil ?_
  refine hK1 _ _ ?_
  clear hK1; try clear K1
  refine gc_seq fun K2 hK2 => ?_
  refine gc_anyS hS (by kernel_rfl) rfl fun nq1 hK => ?_
  have hS := hS.dr nq1
  refine ga_take 0 rfl rfl rfl rfl (by kernel_rfl) (fun _ _ _ _ h => h) hK (fun w1 hS => op_pure hT rfl) ?_
  refine ga_take 1 rfl rfl rfl rfl (by kernel_rfl) (fun _ _ _ _ h => h) hK (fun w1 hS => op_pure hT rfl) ?_
  refine ga_take 2 rfl rfl rfl rfl (by kernel_rfl) (fun _ _ _ _ h => h) hK (fun w1 hS => op_fieldB 0 rfl Tryd.underlying54 rfl el31 rfl rfl) ?_
  refine ga_take 3 rfl rfl rfl rfl (by kernel_rfl) (fun _ _ _ _ h => h) hK (fun w1 hS => op_loadB 0 hT hS rfl rfl rfl rfl rfl rfl) ?_
  refine ga_take 4 rfl rfl rfl rfl (by kernel_rfl) (fun _ _ _ _ h => h) hK (fun w1 hS => op_pure hT rfl) ?_
  refine ga_take 5 rfl rfl rfl rfl (by kernel_rfl) (fun _ _ _ _ h => h) hK (fun w1 hS => op_pure hT rfl) ?_
  refine ga_take 6 rfl rfl rfl rfl (by kernel_rfl) (fun _ _ _ _ h => h) hK (fun w1 hS => op_fieldB 1 rfl Tryd.underlying54 rfl el3 rfl rfl) ?_
  refine ga_take 7 rfl rfl rfl rfl (by kernel_rfl) (fun _ _ _ _ h => h) hK (fun w1 hS => op_loadB 0 hT hS rfl rfl rfl rfl rfl rfl) ?_
  refine ga_one 8 (by kernel_rfl) rfl ?_
  refine gl_callf rfl rfl rfl rfl Tryd.func90 rfl rfl rfl (ReadFloat_calls A c l at_ _ (hr hS) (by omega) hmin) ?_
  rintro _ _ ⟨rfl, n15, rfl⟩
  refine ⟨_, rfl, ?_⟩
  have hS := hS.dr n15
  refine gl_nil ?_
  refine ga_next hS fun hK => ?_
  refine ga_take 9 rfl rfl rfl rfl (by kernel_rfl) (fun _ _ _ _ h => h) hK (fun w1 hS => op_pure hT rfl) ?_
  refine ga_take 10 rfl rfl rfl rfl (by kernel_rfl) (fun _ _ _ _ h => h) hK (fun w1 hS => op_pure hT rfl) ?_
  refine ga_take 11 rfl rfl rfl rfl (by kernel_rfl) (fun _ _ _ _ h => h) hK (fun w1 hS => op_pure hT rfl) ?_
  refine ga_take 12 rfl rfl rfl rfl (by kernel_rfl) (fun _ _ _ _ h => h) hK (fun w1 hS => op_pure hT rfl) ?_
  refine ga_take 13 rfl rfl rfl rfl (by kernel_rfl) (fun _ _ _ _ h => h) hK (fun w1 hS => op_pure hT rfl) ?_
  refine ga_take 14 rfl rfl rfl rfl (by kernel_rfl) (fun _ _ _ _ h => h) hK (fun w1 hS => op_pure hT rfl) ?_
  refine ga_take 15 rfl rfl rfl rfl (by kernel_rfl) (fun _ _ _ _ h => h) hK (fun w1 hS => op_pure hT rfl) ?_
  refine ga_done (by kernel_rfl) ?_
  refine hK2 _ _ ?_
  clear hK2; try clear K2
  refine gc_seq fun K3 hK3 => ?_
  refine gc_region ?_
  refine gl_op rfl rfl rfl (op_pure hT rfl) ?_
  refine gl_op rfl rfl rfl (op_pure hT rfl) ?_
  refine gl_op rfl rfl rfl (op_pure hT rfl) ?_
  refine gl_op rfl rfl rfl (op_pure hT rfl) ?_
  refine gl_op rfl rfl rfl (op_fieldB 1 rfl Tryd.underlying54 rfl el3 rfl rfl) ?_
  refine gl_op rfl rfl rfl (op_loadB 0 hT hS rfl rfl rfl rfl rfl rfl) ?_
  refine gl_callP rfl rfl rfl rfl Tryd.func53 rfl rfl rfl (check_calls8 _ (readFloatV l at_).2.2 at_ _) ?_
  rintro _ w25 (⟨hx25, rfl, hb25⟩ | ⟨hx25, rfl, hb25⟩)
  · refine .inr ⟨_, rfl, ?_⟩
    try simp only [x_then_panic, x_block_panic]
    refine gk_panic ?_
    exact .inl ⟨_, _, by unfold rF; rw [if_neg hx25], rfl, hS.eqv hb25⟩
  refine .inl ⟨_, rfl, ?_⟩
  have hS := hS.eqv hb25
  refine gl_nil ?_
  refine hK3 _ _ ?_
  clear hK3; try clear K3
  refine gc_seq fun K4 hK4 => ?_
  refine gc_region ?_
  refine gl_op rfl rfl rfl (op_pure hT rfl) ?_
  refine gl_op rfl rfl rfl (op_pure hT rfl) ?_
  refine gl_op rfl rfl rfl (op_pure hT rfl) ?_
  refine gl_op rfl rfl rfl (op_fieldB 1 rfl Tryd.underlying54 rfl el3 rfl rfl) ?_
  refine gl_store 0 hS el3.cellsOf.1 el3.cellsOf.2 rfl rfl rfl rfl rfl rfl rfl rfl fun wcode_go_51 hS => ?_
  refine gl_nil ?_
  refine hK4 _ _ ?_
  clear hK4; try clear K4
  refine gc_seq fun K5 hK5 => ?_
  refine gc_region ?_
  refine gl_op rfl rfl rfl (op_pure hT rfl) ?_
  refine gl_op rfl rfl rfl (op_pure hT rfl) ?_
  refine gl_nil ?_
  refine hK5 _ _ ?_
  clear hK5; try clear K5
  refine gc_ret ?_
  try simp only [x_then_ret, x_block_ret]
  refine gk_ret1 rfl rfl ?_
  exact .inr ⟨_, _, by unfold rF; rw [if_pos hx25], rfl, hS⟩
end Go.Proofs.YtnomlloaahoceaaDoor


/- Our own words: floats, complex numbers, arrays as values. Nothing here speaks of a statement; no condition. -/
namespace Go.Proofs.YtnomlloaahoceaaDoor
open Go.RowKit
set_option linter.unusedVariables false
set_option linter.unusedSimpArgs false
section
variable {P : Program} {N : Nt} {e : Env} {Q : Exit → Act → World → Prop} {w w0 w' : World} {T : TyTab} {B : Nat} {L : List It}
theorem real_eq (ts : Array TypeId) (t : TypeId) (k : FloatKind) (re im : Nat) : Builtin.real_ ts t #[.complex k re im] = pure (.float k re) := rfl
theorem imag_eq (ts : Array TypeId) (t : TypeId) (k : FloatKind) (re im : Nat) : Builtin.imag_ ts t #[.complex k re im] = pure (.float k im) := rfl
def fltB (op : BinOp) (a b : Nat) : Option Bool :=
  match op with
  | .eql => some (FloatKind.f64.format.order a b == some .eq)
  | .neq => some (FloatKind.f64.format.order a b != some .eq)
  | .lss => some (FloatKind.f64.format.order a b == some .lt)
  | .leq => some (FloatKind.f64.format.order a b == some .lt || FloatKind.f64.format.order a b == some .eq)
  | .gtr => some (FloatKind.f64.format.order a b == some .gt)
  | .geq => some (FloatKind.f64.format.order a b == some .gt || FloatKind.f64.format.order a b == some .eq)
  | _ => none
theorem op_fcmp {o : Oper} {op : BinOp} {t yt : TypeId} {x y : Operand} {a b : Nat} {v : Bool} (ho : o.op = .binOp op t x y yt) (hx : evO e x = some (.float .f64 a)) (hy : evO e y = some (.float .f64 b)) (hv : fltB op a b = some v) : OpR P N e w o (.bool v) := by
  intro q c ha
  cases op <;> simp only [fltB] at hv <;> first | (cases hv; done) | skip
  all_goals (injection hv with hv; subst hv; simp [execOp, ho, ha.eval hx, ha.eval hy, eqGuard, binOp, Op.floatCmp, Sem.run_bind, Sem.run_pure])
theorem op_real {o : Oper} {x : Operand} {ts : Array TypeId} {re im : Nat} (ho : o.op = .call { callee := .builtin .real, args := #[x], argTypes := ts }) (hx : evO e x = some (.complex .f64 re im)) : OpR P N e w o (.float .f64 re) := by
  intro q c ha
  simp only [execOp, ho, resolve, invoke, builtin, Sem.run_bind, Sem.run_pure, Result.andThen_ok, List.map_toArray, List.map_cons, List.map_nil, ha.eval hx, real_eq]
theorem op_imag {o : Oper} {x : Operand} {ts : Array TypeId} {re im : Nat} (ho : o.op = .call { callee := .builtin .imag, args := #[x], argTypes := ts }) (hx : evO e x = some (.complex .f64 re im)) : OpR P N e w o (.float .f64 im) := by
  intro q c ha
  simp only [execOp, ho, resolve, invoke, builtin, Sem.run_bind, Sem.run_pure, Result.andThen_ok, List.map_toArray, List.map_cons, List.map_nil, ha.eval hx, imag_eq]
theorem op_indexA {o : Oper} {t el : TypeId} {x y : Operand} {cs : List Value} {n : Nat} {k : IntKind} {m : Int} {v : Value} {z : Value} {bytes : Nat} {d : TypeDesc} (hT : TabOk P T) (ho : o.op = .index t x y) (ht : P.underlying t = some (.array n el)) (hel : Elem P el z 1 bytes) (hd : tlook T el = some d) (hd2 : isAggD d = false)
    (hx : evO e x = some (.agg ⟨cs⟩)) (hy : evO e y = some (.int k m)) (h0 : 0 ≤ m) (h1 : m < n) (hv : cs[m.toNat]? = some v) : OpR P N e w o v := by
  intro q c ha
  simp only [execOp, ho, ha.eval hx, ha.eval hy, Instr.index, asIntOf]
  simp only [Sem.run_bind, Sem.run_pure, Result.andThen_ok, run_underlying ht, pure_bind, h0, h1, and_self, if_true, hel.run_size (World.dr w q), part, run_isAgg (hT.at hd), hd2]
  simp [hv]
theorem op_ixA {o : Oper} {t el : TypeId} {x y : Operand} {g j0 j n : Nat} {k : IntKind} {m : Int} {z : Value} {sz bytes : Nat} (ho : o.op = .indexAddr t x y) (ht : P.underlying t = some (.array n el)) (hel : Elem P el z sz bytes)
    (hx : evO e x = some (.pointer (some ⟨g, j0, none⟩))) (hy : evO e y = some (.int k m)) (h0 : 0 ≤ m) (h1 : m < n) (hj : j0 + m.toNat * sz = j) : OpR P N e w o (.pointer (some ⟨g, j, none⟩)) := by
  intro q c ha
  have ea : (⟨g, j0, none⟩ : Addr).add (m.toNat * sz) = ⟨g, j, none⟩ := by rw [addB, hj]
  simp only [execOp, ho, ha.eval hx, ha.eval hy, Instr.indexAt, asIntOf, Instr.sureAddr]
  simp only [Sem.run_bind, Sem.run_pure, Result.andThen_ok, run_underlying ht, pure_bind]
  by_cases hn1 : n ≤ 1
  · simp [hn1, h0, h1, hel.run_size (World.dr w q), ea, run_underlying ht]
  · simp [hn1, h0, h1, hel.run_size (World.dr w q), ea, run_underlying ht]
theorem gl_litS {ops : Array Oper} {o : Oper} {rest : List Oper} {d : Nat} {t el : TypeId} {x : Operand} {vs : List Value} {z : Value} {sz bytes : Nat}
    (hT : TabOk P T) (hS : St B w0 w L) (hel : Elem P el z sz bytes) (hd : o.dst = some d) (hg : o.guard = none) (hN : Nat.ble (d + 1) N = true) (ho : o.op = .buildSlice t 1 #[(0, x)])
    (ht : tlook T t = some (.slice el)) (hx : evO e x = some (.agg ⟨vs⟩)) (hl : vs.length = sz) (hk : sz ≤ 16777216)
    (h : ∀ g w', St B w0 w' (L ++ [.row (some ⟨g, 0, none⟩) 1 el sz 1 vs]) → GL P N ops ((d, .slice (some ⟨g, 0, none⟩) 1 1) :: e) rest Q w') : GL P N ops e (o :: rest) Q w := by
  obtain ⟨i, hi, hz, hs', hb⟩ := hel.ex
  have hpos := hel.pos
  have hrun : ∀ a, Fr N a e → (execOp a.eval o).run P w = .ok (.value (.slice (some ⟨w.heap.size, 0, none⟩) 1 1)) (w.alloc (.cells ⟨vs⟩ el)) := by
    intro a ha
    have hzv : (zeroValue el).run P w = .ok z w := by simp [zeroValue, typeInfo, hi, hz]
    have hzl : ((Array.range (1 * sz)).map (z.cells[· % z.cells.size]!)).toList.length = sz := by simp
    have hf : Instr.fill (fun i => some (i * sz, sz)) ((Array.range (1 * sz)).map (z.cells[· % z.cells.size]!)) [(0, .agg ⟨vs⟩)] = some ⟨vs⟩ := by
      have h0 : fillL [(0, sz)] ((Array.range (1 * sz)).map (z.cells[· % z.cells.size]!)).toList [(0, .agg ⟨vs⟩)] = some vs := by
        have hcl : cellsL (.agg ⟨vs⟩) = vs := rfl
        have hb2 : (Nat.beq vs.length sz && Nat.ble (0 + sz) ((Array.range (1 * sz)).map (z.cells[· % z.cells.size]!)).toList.length) = true := by simp [hl]
        simp only [fillL, List.getElem?_cons_zero, hcl, hb2, cond_true]
        rw [putL_eq _ _ _ (by omega), List.take_zero, List.nil_append, List.drop_eq_nil_of_le (by omega), List.append_nil]
      have := fill_of_L (place := fun i => some (i * sz, sz)) (pl := [(0, sz)]) (fun j p hp => by
        cases j with
        | zero => simp at hp; subst hp; simp
        | succ j => simp at hp) _ _ _ h0
      exact this
    have hle : ¬ 1 * sz > 2 ^ 24 := by omega
    have hne : ¬ 1 * sz = 0 := by omega
    simp only [execOp, ho, Instr.buildSlice, Sem.run_bind, run_underlying (hT.at ht), Result.andThen_ok, hel.run_size w, List.map_toArray, List.map_cons, List.map_nil, ha.eval hx, hle, hne, if_false, hzv, Sem.run_pure, hf]
    simp [newRow, newObj, Sem.run]
  refine gl_step hd (Nat.le_of_ble_eq_true hN) hg hrun (h _ _ (hS.add rfl rfl rfl (by simp) (fun b hb => Below.heap_alloc _ _ b hb) ?_ ?_))
  · refine ⟨by simp [hl], .inr ⟨w.heap.size, 1, ⟨vs⟩, rfl, hS.size, heap_alloc_new w _, Nat.le_refl _, Nat.le_refl _, by simp only [maxLen]; omega, by simp [hl], ?_⟩⟩
    rw [Nat.one_mul]; exact List.take_of_length_le (by simp [hl])
  · rintro b ⟨a, h, rfl⟩; injection h with h; rw [← h]; exact Nat.le_refl _
end
end Go.Proofs.YtnomlloaahoceaaDoor


/- Plain words for chapter 6: shapes, layers, what may be. No program in sight; no condition. -/
namespace Go.Proofs.YtnomlloaahoceaaDoor
set_option linter.unusedVariables false
set_option linter.unusedSimpArgs false
abbrev Sv := Option Addr × Nat × Nat
@[reducible] def svV (x : Sv) : Value := .slice x.1 x.2.1 x.2.2
structure Sh where
  c : Int
  h : Int
  w : Int
@[reducible] def shC (s : Sh) : List Value := [.int .i64 s.c, .int .i64 s.h, .int .i64 s.w]
@[reducible] def i64 (x : Int) : Prop := -9223372036854775808 ≤ x ∧ x ≤ 9223372036854775807
structure Sh.ok (s : Sh) : Prop where
  c : i64 s.c
  h : i64 s.h
  w : i64 s.w
structure Ly where
  k : Int
  out : Int
  kh : Int
  kw : Int
  sh : Int
  sw : Int
  ph : Int
  pw : Int
  fr : Int
  a : Nat
  W : Sv
  B : Sv
  Z : Sv
  ZB : Sv
@[reducible] def lyC (L : Ly) : List Value := [.int .i64 L.k, .int .i64 L.out, .int .i64 L.kh, .int .i64 L.kw, .int .i64 L.sh, .int .i64 L.sw, .int .i64 L.ph, .int .i64 L.pw, .int .i64 L.fr, .float .f64 L.a, svV L.W, svV L.B, svV L.Z, svV L.ZB]
structure Ly.ok (L : Ly) : Prop where
  k : i64 L.k
  out : i64 L.out
  kh : i64 L.kh
  kw : i64 L.kw
  sh : i64 L.sh
  sw : i64 L.sw
  ph : i64 L.ph
  pw : i64 L.pw
  fr : i64 L.fr
  a : L.a < 18446744073709551616
def nmB (u : Nat) : Bool := !decide (u / 4503599627370496 % 2048 = 2047)
def szBad (s : Sh) : Prop := s.c < 1 ∨ s.h < 1 ∨ s.w < 1 ∨ 256 < s.c ∨ 256 < s.h ∨ 256 < s.w ∨ 256 < s.c * s.h * s.w
instance (s : Sh) : Decidable (szBad s) := by unfold szBad; infer_instance
def sizeV (s : Sh) : Int × Int := if szBad s then (0, 60) else (s.c * s.h * s.w, 0)
theorem mul_bd {a b A B : Int} (h1 : 1 ≤ a) (h2 : a ≤ A) (h3 : 1 ≤ b) (h4 : b ≤ B) : 1 ≤ a * b ∧ a * b ≤ A * B := by
  refine ⟨?_, Int.mul_le_mul h2 h4 (by omega) (by omega)⟩
  have := Int.mul_le_mul h1 h3 (by omega) (by omega)
  omega
theorem mul_bd0 {a b A B : Int} (h1 : 0 ≤ a) (h2 : a ≤ A) (h3 : 0 ≤ b) (h4 : b ≤ B) : 0 ≤ a * b ∧ a * b ≤ A * B :=
  ⟨Int.mul_nonneg h1 h3, Int.mul_le_mul h2 h4 h3 (by omega)⟩
theorem div_bd {a b : Int} (h0 : 0 ≤ a) (h1 : 1 ≤ b) : 0 ≤ a / b ∧ a / b ≤ a := ⟨Int.ediv_nonneg h0 (by omega), Int.ediv_le_self b h0⟩
def winV (kind : Int) : Prop := kind = 2 ∨ kind = 4 ∨ kind = 12
instance (k : Int) : Decidable (winV k) := by unfold winV; infer_instance
def bndC (k kh kw : Int) : List Value :=
  if k = 1 then [.int .i64 1, .int .i64 256, .int .i64 0, .int .i64 0, .int .i64 0, .int .i64 0, .int .i64 0, .int .i64 0, .int .i64 0, .int .i64 0, .int .i64 0, .int .i64 0, .int .i64 0, .int .i64 0, .int .i64 0, .int .i64 0] else
  if k = 6 then [.int .i64 1, .int .i64 128, .int .i64 0, .int .i64 0, .int .i64 0, .int .i64 0, .int .i64 0, .int .i64 0, .int .i64 0, .int .i64 0, .int .i64 0, .int .i64 0, .int .i64 0, .int .i64 0, .int .i64 0, .int .i64 0] else
  if k = 5 then [.int .i64 0, .int .i64 0, .int .i64 0, .int .i64 0, .int .i64 0, .int .i64 0, .int .i64 0, .int .i64 0, .int .i64 0, .int .i64 0, .int .i64 0, .int .i64 0, .int .i64 0, .int .i64 0, .int .i64 0, .int .i64 64] else
  if k = 2 then [.int .i64 1, .int .i64 256, .int .i64 1, .int .i64 16, .int .i64 1, .int .i64 16, .int .i64 1, .int .i64 16, .int .i64 1, .int .i64 16, .int .i64 0, .int .i64 (IntKind.i64.wrap (kh - 1)), .int .i64 0, .int .i64 (IntKind.i64.wrap (kw - 1)), .int .i64 0, .int .i64 0] else
  if k = 4 ∨ k = 12 then [.int .i64 0, .int .i64 0, .int .i64 1, .int .i64 16, .int .i64 1, .int .i64 16, .int .i64 1, .int .i64 16, .int .i64 1, .int .i64 16, .int .i64 0, .int .i64 (IntKind.i64.wrap (kh - 1)), .int .i64 0, .int .i64 (IntKind.i64.wrap (kw - 1)), .int .i64 0, .int .i64 0] else
  [.int .i64 0, .int .i64 0, .int .i64 0, .int .i64 0, .int .i64 0, .int .i64 0, .int .i64 0, .int .i64 0, .int .i64 0, .int .i64 0, .int .i64 0, .int .i64 0, .int .i64 0, .int .i64 0, .int .i64 0, .int .i64 0]
def bndI (k kh kw : Int) : List Int :=
  if k = 1 then [1, 256, 0, 0, 0, 0, 0, 0, 0, 0, 0, 0, 0, 0, 0, 0] else if k = 6 then [1, 128, 0, 0, 0, 0, 0, 0, 0, 0, 0, 0, 0, 0, 0, 0] else
  if k = 5 then [0, 0, 0, 0, 0, 0, 0, 0, 0, 0, 0, 0, 0, 0, 0, 64] else
  if k = 2 then [1, 256, 1, 16, 1, 16, 1, 16, 1, 16, 0, IntKind.i64.wrap (kh - 1), 0, IntKind.i64.wrap (kw - 1), 0, 0] else
  if k = 4 ∨ k = 12 then [0, 0, 1, 16, 1, 16, 1, 16, 1, 16, 0, IntKind.i64.wrap (kh - 1), 0, IntKind.i64.wrap (kw - 1), 0, 0] else
  [0, 0, 0, 0, 0, 0, 0, 0, 0, 0, 0, 0, 0, 0, 0, 0]
theorem bndC_eq (k kh kw : Int) : bndC k kh kw = (bndI k kh kw).map (Value.int .i64) := by
  unfold bndC bndI
  by_cases h1 : k = 1
  · rw [if_pos h1, if_pos h1]; rfl
  rw [if_neg h1, if_neg h1]
  by_cases h2 : k = 6
  · rw [if_pos h2, if_pos h2]; rfl
  rw [if_neg h2, if_neg h2]
  by_cases h3 : k = 5
  · rw [if_pos h3, if_pos h3]; rfl
  rw [if_neg h3, if_neg h3]
  by_cases h4 : k = 2
  · rw [if_pos h4, if_pos h4]; rfl
  rw [if_neg h4, if_neg h4]
  by_cases h5 : k = 4 ∨ k = 12
  · rw [if_pos h5, if_pos h5]; rfl
  rw [if_neg h5, if_neg h5]; rfl
def bndA (k : Int) : Bool := decide (k = 4 ∨ k = 8)
def fldOk (L : Ly) : Prop :=
  (if L.k = 1 ∨ L.k = 2 then 1 ≤ L.out ∧ L.out ≤ 256 else if L.k = 6 then 1 ≤ L.out ∧ L.out ≤ 128 else L.out = 0) ∧
  (if L.k = 2 ∨ L.k = 4 ∨ L.k = 12 then (1 ≤ L.kh ∧ L.kh ≤ 16) ∧ (1 ≤ L.kw ∧ L.kw ≤ 16) ∧ (1 ≤ L.sh ∧ L.sh ≤ 16) ∧ (1 ≤ L.sw ∧ L.sw ≤ 16) ∧ (0 ≤ L.ph ∧ L.ph ≤ L.kh - 1) ∧ (0 ≤ L.pw ∧ L.pw ≤ L.kw - 1) else L.kh = 0 ∧ L.kw = 0 ∧ L.sh = 0 ∧ L.sw = 0 ∧ L.ph = 0 ∧ L.pw = 0) ∧
  (if L.k = 5 then 0 ≤ L.fr ∧ L.fr ≤ 64 else L.fr = 0)
instance (L : Ly) : Decidable (fldOk L) := by unfold fldOk; infer_instance
@[reducible] def fldI (L : Ly) : List Int := [L.out, L.kh, L.kw, L.sh, L.sw, L.ph, L.pw, L.fr]
def fitAt (L : Ly) (j : Nat) : Prop := (bndI L.k L.kh L.kw).getD (2 * j) 0 ≤ (fldI L).getD j 0 ∧ (fldI L).getD j 0 ≤ (bndI L.k L.kh L.kw).getD (2 * j + 1) 0
theorem fits_iff (L : Ly) : (∀ j, j < 8 → fitAt L j) ↔ fldOk L := by
  obtain ⟨k, out, kh, kw, sh, sw, ph, pw, fr, a, W, B, Z, ZB⟩ := L
  have e8 : (∀ j, j < 8 → fitAt ⟨k, out, kh, kw, sh, sw, ph, pw, fr, a, W, B, Z, ZB⟩ j) ↔ fitAt ⟨k, out, kh, kw, sh, sw, ph, pw, fr, a, W, B, Z, ZB⟩ 0 ∧ fitAt ⟨k, out, kh, kw, sh, sw, ph, pw, fr, a, W, B, Z, ZB⟩ 1 ∧ fitAt ⟨k, out, kh, kw, sh, sw, ph, pw, fr, a, W, B, Z, ZB⟩ 2 ∧ fitAt ⟨k, out, kh, kw, sh, sw, ph, pw, fr, a, W, B, Z, ZB⟩ 3 ∧ fitAt ⟨k, out, kh, kw, sh, sw, ph, pw, fr, a, W, B, Z, ZB⟩ 4 ∧ fitAt ⟨k, out, kh, kw, sh, sw, ph, pw, fr, a, W, B, Z, ZB⟩ 5 ∧ fitAt ⟨k, out, kh, kw, sh, sw, ph, pw, fr, a, W, B, Z, ZB⟩ 6 ∧ fitAt ⟨k, out, kh, kw, sh, sw, ph, pw, fr, a, W, B, Z, ZB⟩ 7 := by
    constructor
    · intro h; exact ⟨h 0 (by decide), h 1 (by decide), h 2 (by decide), h 3 (by decide), h 4 (by decide), h 5 (by decide), h 6 (by decide), h 7 (by decide)⟩
    · rintro ⟨h0, h1, h2, h3, h4, h5, h6, h7⟩ j hj
      match j, hj with
      | 0, _ => exact h0
      | 1, _ => exact h1
      | 2, _ => exact h2
      | 3, _ => exact h3
      | 4, _ => exact h4
      | 5, _ => exact h5
      | 6, _ => exact h6
      | 7, _ => exact h7
  rw [e8]
  unfold fitAt fldOk bndI
  simp only
  by_cases h1 : k = 1
  · simp only [if_pos h1, if_pos (show k = 1 ∨ k = 2 by omega), if_neg (show ¬ (k = 2 ∨ k = 4 ∨ k = 12) by omega), if_neg (show ¬ k = 5 by omega), List.getD_cons_succ, List.getD_cons_zero, Nat.mul_zero, Nat.reduceMul, Nat.reduceAdd]; omega
  simp only [if_neg h1]
  by_cases h2 : k = 6
  · simp only [if_pos h2, if_neg (show ¬ (k = 1 ∨ k = 2) by omega), if_neg (show ¬ (k = 2 ∨ k = 4 ∨ k = 12) by omega), if_neg (show ¬ k = 5 by omega), List.getD_cons_succ, List.getD_cons_zero, Nat.mul_zero, Nat.reduceMul, Nat.reduceAdd]; omega
  simp only [if_neg h2]
  by_cases h3 : k = 5
  · simp only [if_pos h3, if_neg (show ¬ (k = 1 ∨ k = 2) by omega), if_neg (show ¬ (k = 2 ∨ k = 4 ∨ k = 12) by omega), List.getD_cons_succ, List.getD_cons_zero, Nat.mul_zero, Nat.reduceMul, Nat.reduceAdd]; omega
  simp only [if_neg h3]
  by_cases h4 : k = 2
  · simp only [if_pos h4, if_pos (show k = 1 ∨ k = 2 by omega), if_pos (show (k = 2 ∨ k = 4 ∨ k = 12) by omega), List.getD_cons_succ, List.getD_cons_zero, Nat.mul_zero, Nat.reduceMul, Nat.reduceAdd, IntKind.wrap_i64]; omega
  simp only [if_neg h4, if_neg (show ¬ (k = 1 ∨ k = 2) by omega)]
  by_cases h5 : k = 4 ∨ k = 12
  · simp only [if_pos h5, if_pos (show (k = 2 ∨ k = 4 ∨ k = 12) by omega), List.getD_cons_succ, List.getD_cons_zero, Nat.mul_zero, Nat.reduceMul, Nat.reduceAdd, IntKind.wrap_i64]; omega
  simp only [if_neg h5, if_neg (show ¬ (k = 2 ∨ k = 4 ∨ k = 12) by omega), List.getD_cons_succ, List.getD_cons_zero, Nat.mul_zero, Nat.reduceMul, Nat.reduceAdd]; omega
def aOut (a : Nat) : Bool := (FloatKind.f64.format.order a 0 == some .lt) || (FloatKind.f64.format.order a 4607182418800017408 == some .gt)
def fieldsV (L : Ly) : Int :=
  if L.k < 1 ∨ 12 < L.k then 61 else if ¬ fldOk L then 62 else
  if bndA L.k = false ∧ L.a ≠ 0 then 62 else if bndA L.k = true ∧ nmB L.a = false then 64 else if L.k = 8 ∧ aOut L.a = true then 62 else 0
theorem fv_61 {L : Ly} (h1 : L.k < 1 ∨ 12 < L.k) : fieldsV L = 61 := by unfold fieldsV; rw [if_pos h1]
theorem fv_62 {L : Ly} (h1 : ¬ (L.k < 1 ∨ 12 < L.k)) (h2 : ¬ fldOk L) : fieldsV L = 62 := by unfold fieldsV; rw [if_neg h1, if_pos h2]
theorem fv_62a {L : Ly} (h1 : ¬ (L.k < 1 ∨ 12 < L.k)) (h2 : fldOk L) (h3 : bndA L.k = false) (h4 : L.a ≠ 0) : fieldsV L = 62 := by unfold fieldsV; rw [if_neg h1, if_neg (fun h => h h2), if_pos ⟨h3, h4⟩]
theorem fv_0a {L : Ly} (h1 : ¬ (L.k < 1 ∨ 12 < L.k)) (h2 : fldOk L) (h3 : bndA L.k = false) (h4 : L.a = 0) : fieldsV L = 0 := by
  unfold fieldsV
  have h8 : L.k ≠ 8 := fun h => by rw [h] at h3; exact absurd h3 (by decide)
  rw [if_neg h1, if_neg (fun h => h h2), if_neg (fun h => h.2 h4), if_neg (fun h => by rw [h3] at h; exact absurd h.1 (by decide)), if_neg (fun h => h8 h.1)]
theorem fv_64 {L : Ly} (h1 : ¬ (L.k < 1 ∨ 12 < L.k)) (h2 : fldOk L) (h3 : bndA L.k = true) (h4 : nmB L.a = false) : fieldsV L = 64 := by
  unfold fieldsV; rw [if_neg h1, if_neg (fun h => h h2), if_neg (fun h => by rw [h3] at h; exact absurd h.1 (by decide)), if_pos ⟨h3, h4⟩]
theorem fv_62b {L : Ly} (h1 : ¬ (L.k < 1 ∨ 12 < L.k)) (h2 : fldOk L) (h3 : bndA L.k = true) (h4 : nmB L.a = true) (h5 : L.k = 8) (h6 : aOut L.a = true) : fieldsV L = 62 := by
  unfold fieldsV; rw [if_neg h1, if_neg (fun h => h h2), if_neg (fun h => by rw [h3] at h; exact absurd h.1 (by decide)), if_neg (fun h => by rw [h4] at h; exact absurd h.2 (by decide)), if_pos ⟨h5, h6⟩]
theorem fv_0b {L : Ly} (h1 : ¬ (L.k < 1 ∨ 12 < L.k)) (h2 : fldOk L) (h3 : bndA L.k = true) (h4 : nmB L.a = true) (h5 : L.k ≠ 8) : fieldsV L = 0 := by
  unfold fieldsV; rw [if_neg h1, if_neg (fun h => h h2), if_neg (fun h => by rw [h3] at h; exact absurd h.1 (by decide)), if_neg (fun h => by rw [h4] at h; exact absurd h.2 (by decide)), if_neg (fun h => h5 h.1)]
theorem fv_0c {L : Ly} (h1 : ¬ (L.k < 1 ∨ 12 < L.k)) (h2 : fldOk L) (h3 : bndA L.k = true) (h4 : nmB L.a = true) (h6 : aOut L.a = false) : fieldsV L = 0 := by
  unfold fieldsV; rw [if_neg h1, if_neg (fun h => h h2), if_neg (fun h => by rw [h3] at h; exact absurd h.1 (by decide)), if_neg (fun h => by rw [h4] at h; exact absurd h.2 (by decide)), if_neg (fun h => by rw [h6] at h; exact absurd h.2 (by decide))]
def outS (L : Ly) (s : Sh) : Sh :=
  if L.k = 1 then ⟨L.out, 1, 1⟩ else if L.k = 6 then ⟨2 * L.out, 1, 1⟩ else
  if winV L.k then ⟨if L.k = 2 then L.out else s.c, (s.h + 2 * L.ph - L.kh) / L.sh + 1, (s.w + 2 * L.pw - L.kw) / L.sw + 1⟩ else s
def outV (L : Ly) (s : Sh) : Sh × Int :=
  if fieldsV L ≠ 0 then (⟨0, 0, 0⟩, fieldsV L) else
  if szBad s then (⟨0, 0, 0⟩, 60) else
  if winV L.k ∧ (s.h + 2 * L.ph - L.kh < 0 ∨ s.w + 2 * L.pw - L.kw < 0) then (⟨0, 0, 0⟩, 60) else
  if L.k = 6 ∧ (s.c * s.h * s.w) % 2 = 1 then (⟨0, 0, 0⟩, 60) else
  if szBad (outS L s) then (⟨0, 0, 0⟩, 60) else (outS L s, 0)
def lensV (L : Ly) (s : Sh) : Int × Int × Int × Int :=
  if L.k = 1 then (L.out * (s.c * s.h * s.w), L.out, 0, 0) else if L.k = 2 then (L.out * s.c * L.kh * L.kw, L.out, 0, 0) else
  if L.k = 3 then (s.c, s.c, 0, 0) else if L.k = 6 then (0, 0, L.out * (s.c * s.h * s.w) / 2, L.out) else (0, 0, 0, 0)
def listsV (L : Ly) (s : Sh) : (Int × Int × Int × Int) × Int := if (outV L s).2 ≠ 0 then ((0, 0, 0, 0), (outV L s).2) else (lensV L s, 0)
theorem fv_zero {L : Ly} (h : fieldsV L = 0) : 1 ≤ L.k ∧ L.k ≤ 12 ∧ fldOk L := by
  unfold fieldsV at h
  by_cases h1 : L.k < 1 ∨ 12 < L.k
  · rw [if_pos h1] at h; exact absurd h (by decide)
  rw [if_neg h1] at h
  by_cases h2 : fldOk L
  · exact ⟨by omega, by omega, h2⟩
  · rw [if_pos h2] at h; exact absurd h (by decide)
theorem fld_win {L : Ly} (h : fldOk L) (hw : winV L.k) : (1 ≤ L.kh ∧ L.kh ≤ 16) ∧ (1 ≤ L.kw ∧ L.kw ≤ 16) ∧ (1 ≤ L.sh ∧ L.sh ≤ 16) ∧ (1 ≤ L.sw ∧ L.sw ≤ 16) ∧ (0 ≤ L.ph ∧ L.ph ≤ L.kh - 1) ∧ (0 ≤ L.pw ∧ L.pw ≤ L.kw - 1) := by
  have := h.2.1
  unfold winV at hw
  rw [if_pos hw] at this
  exact this
theorem fld_out {L : Ly} (h : fldOk L) : 0 ≤ L.out ∧ L.out ≤ 256 := by
  have := h.1
  split at this
  · omega
  · split at this <;> omega
theorem sz_good {s : Sh} (h : ¬ szBad s) : (1 ≤ s.c ∧ s.c ≤ 256) ∧ (1 ≤ s.h ∧ s.h ≤ 256) ∧ (1 ≤ s.w ∧ s.w ≤ 256) ∧ 1 ≤ s.c * s.h * s.w ∧ s.c * s.h * s.w ≤ 256 := by
  unfold szBad at h
  have b1 := mul_bd (a := s.c) (b := s.h) (A := 256) (B := 256) (by omega) (by omega) (by omega) (by omega)
  have b2 := mul_bd (a := s.c * s.h) (b := s.w) (A := 65536) (B := 256) (by omega) (by omega) (by omega) (by omega)
  omega
theorem sizeV_ok {s : Sh} (h : (sizeV s).2 = 0) : ¬ szBad s ∧ (sizeV s).1 = s.c * s.h * s.w := by
  unfold sizeV at h ⊢
  by_cases hb : szBad s
  · rw [if_pos hb] at h; exact absurd h (by decide)
  · rw [if_neg hb]; exact ⟨hb, rfl⟩
theorem sizeV_bad {s : Sh} (h : (sizeV s).2 ≠ 0) : szBad s ∧ (sizeV s).2 = 60 := by
  unfold sizeV at h ⊢
  by_cases hb : szBad s
  · rw [if_pos hb]; exact ⟨hb, rfl⟩
  · rw [if_neg hb] at h; exact absurd rfl h
end Go.Proofs.YtnomlloaahoceaaDoor

