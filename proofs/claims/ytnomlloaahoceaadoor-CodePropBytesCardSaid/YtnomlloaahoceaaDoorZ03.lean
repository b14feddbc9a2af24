/- Contracts of functions that CodePropBytes reaches, and words to say them. No condition. -/
import Derived.Test.YtnomlloaahoceaaDoorZ02
import Derived.Recover
import Derived.Test.YtnomlloaahoceaaDoorZ01
import Derived.Test.YtnomlloaahoceaaDoorProg
/- Our own words: what a callee has made, joined; the last pieces as one that stays. Nothing here speaks of a statement; no condition. -/
namespace Go.Proofs.YtnomlloaahoceaaDoor
open Go.RowKit
set_option linter.unusedVariables false
set_option linter.unusedSimpArgs false
theorem St.more {B : Nat} {w0 w w' : World} {L L' : List It} (h : St B w0 w L) (h2 : St w.heap.size w w' L') : St B w0 w' (L ++ L') := by
  have hb := h2.below
  have hg := h.grown hb
  refine ⟨hg.1, fun it hi => ?_, ?_⟩
  · rcases List.mem_append.1 hi with hi | hi
    · exact hg.2.1 it hi
    · have hok := h2.2.1 it hi
      have hB := h.size
      cases it with
      | row A c el sz m cs => exact Owns.mono hok hB
      | blk g t cs => exact ⟨Nat.le_trans hB hok.1, hok.2⟩
      | keep S w1 => exact fun b hb => ⟨Nat.le_trans hB (hok b hb).1, (hok b hb).2⟩
      | obj g o => exact ⟨Nat.le_trans hB hok.1, hok.2⟩
  · refine List.pairwise_append.2 ⟨hg.2.2, h2.2.2, fun x hx y hy b hbx hby => ?_⟩
    have h3 := (It.ok_lt (h.2.1 x hx) hbx).2
    have h4 := (It.ok_lt (h2.2.1 y hy) hby).1
    omega
theorem rd_of {α : Type} {enc : α → Value} {w : World} {ok : Nat → Prop} {A : Option Addr} {n : Nat} {l : List α} (h : RdE w ok enc A l) (hl : l.length = n) : Rd w ok A n 1 (l.map enc) := by subst hl; exact h
theorem rdE_of {α : Type} {enc : α → Value} {w : World} {ok : Nat → Prop} {A : Option Addr} {n : Nat} {l : List α} (h : Rd w ok A n 1 (l.map enc)) (hl : l.length = n) : RdE w ok enc A l := by subst hl; exact h
theorem St.keepRest {B : Nat} {w0 w : World} {L L2 : List It} (h : St B w0 w (L ++ L2)) : St B w0 w (L ++ [.keep (fun b => ∃ it ∈ L2, it.fp b) w]) := by
  obtain ⟨h1, h2, h3⟩ := h
  refine ⟨h1, fun it hi => ?_, ?_⟩
  · rcases List.mem_append.1 hi with hi | hi
    · exact h2 it (List.mem_append_left _ hi)
    · rw [List.mem_singleton] at hi
      subst hi
      rintro b ⟨it, hit, hb⟩
      have := It.ok_lt (h2 it (List.mem_append_right _ hit)) hb
      exact ⟨this.1, this.2, this.2, rfl⟩
  · obtain ⟨g1, g2, g3⟩ := List.pairwise_append.1 h3
    refine List.pairwise_append.2 ⟨g1, List.pairwise_singleton _ _, fun z hz k hk b hb hkb => ?_⟩
    rw [List.mem_singleton] at hk
    subst hk
    obtain ⟨it, hit, hb2⟩ := hkb
    exact g3 z hz it hit b hb hb2
theorem St.rowRd {B : Nat} {w0 w : World} {L : List It} (h : St B w0 w L) {i : Nat} {A : Option Addr} {c : Nat} {el : TypeId} {sz m : Nat} {cs : List Value} (hi : L[i]? = some (.row A c el sz m cs)) {ok : Nat → Prop} (hok : ∀ b, It.fp (.row A c el sz m cs) b → ok b) : Rd w ok A m sz cs := (Owns.rdFp (h.at hi)).weaken hok
theorem Rd.pre {w : World} {ok : Nat → Prop} {A : Option Addr} {n m : Nat} {cs ds : List Value} (h : Rd w ok A n 1 (cs ++ ds)) (hm : cs.length = m) (hn : m ≤ n) : Rd w ok A m 1 cs := by
  have := h.take hn
  rw [Nat.mul_one, List.take_left' hm] at this
  exact this
theorem keep_mem {L2 : List It} {x : It} (h : x ∈ L2) : ∀ b, x.fp b → ∃ it ∈ L2, it.fp b := fun b hb => ⟨x, h, hb⟩
theorem St.keepAll {B : Nat} {w0 w : World} {L2 : List It} (h : St B w0 w L2) : St B w0 w [.keep (fun b => ∃ it ∈ L2, it.fp b) w] := St.keepRest (L := []) h
end Go.Proofs.YtnomlloaahoceaaDoor


/- Our own words: panics, and what is put off to a function's end. Nothing here speaks of a statement; no condition. -/
namespace Go.Proofs.YtnomlloaahoceaaDoor
open Go.RowKit
set_option linter.unusedVariables false
set_option linter.unusedSimpArgs false
section
variable {P : Program} {N : Nt} {e : Env} {Q Q' : Exit → Act → World → Prop} {w w0 w' : World} {T : TyTab} {B : Nat} {L : List It}
theorem x_then_panic (K : Act → World → Prop) (Q : Exit → Act → World → Prop) (ch : List PanicEntry) : Exit.then K Q (.panic ch) = Q (.panic ch) := rfl
theorem x_block_panic (i : Nat) (Q : Exit → Act → World → Prop) (ch : List PanicEntry) : Exit.inBlock i Q (.panic ch) = Q (.panic ch) := rfl
theorem gl_callP {ops : Array Oper} {o : Oper} {rest : List Oper} {d : Nat} {f : FuncId} {xs : List Operand} {ts : Array TypeId} {vs : List Value} {fn : Func} {c : Code} {R : Ending → World → Prop}
    (hd : o.dst = some d) (hg : o.guard = none) (hN : Nat.ble (d + 1) N = true) (ho : o.op = .call { callee := .value (.func f), args := ⟨xs⟩, argTypes := ts })
    (hf : P.funcs[f]? = some fn) (hb : fn.body = some c) (hname : (fn.name == "runtime.NumGoroutine") = false) (hx : evArgs e xs = some vs) (hc : Calls P f ⟨vs⟩ w R)
    (h : ∀ en w', R en w' → (∃ v, en = .returned v ∧ GL P N ops ((d, v) :: e) rest Q w') ∨ (∃ ch, en = .panicked ch ∧ GK N e (Q (.panic ch)) w')) : GL P N ops e (o :: rest) Q w := by
  intro a ha
  refine wpList_plain hg fun K hK => ?_
  unfold Oper.wp
  rw [run_callOp ho hf hb hname hx ha w]
  refine hc.mono fun en w' hR => ?_
  rcases h en w' hR with ⟨v, rfl, hG⟩ | ⟨ch, rfl, hG⟩
  · show K (a.put o.dst v) w'
    rw [hd]
    exact hK _ _ (hG _ (ha.put (Nat.le_of_ble_eq_true hN) v))
  · exact hG a ha
theorem gk_panic {fn : Func} {R : Ending → World → Prop} {ch : List PanicEntry} (h : R (.panicked ch) w) (hds : N.ds = [] := by rfl) : GK N e (bodyPost P fn R (.panic ch)) w := fun a ha => ⟨ha.defers.trans hds, h⟩
theorem gl_panic {ops : Array Oper} {o : Oper} {rest : List Oper} {x : Operand} {t : TypeId} {v : Value} (hg : o.guard = none) (ho : o.op = .panic x) (hx : evO e x = some (.iface t v))
    (h : GK N e (Q (.panic [{ v := .iface t v, recovered := false }])) w) : GL P N ops e (o :: rest) Q w := by
  intro a ha
  refine wpList_plain hg fun K hK => ?_
  unfold Oper.wp
  have hr : (execOp a.eval o).run P w = .halt (.panic (.iface t v)) w := by
    simp only [execOp, ho, ha.eval hx]
    rfl
  rw [hr]
  exact h a ha
theorem op_mkIface {o : Oper} {t : TypeId} {x : Operand} {v : Value} {fs : Array Field} (ho : o.op = .makeInterface t x) (ht : P.underlying t = some (.struct fs)) (hx : evO e x = some v) : OpR P N e w o (.iface t v) := by
  intro n a ha
  simp only [execOp, ho, ha.eval hx, Instr.makeInterface, Sem.run_bind, run_underlying ht, Result.andThen_ok, Sem.run_pure]
theorem op_assertT {o : Oper} {x : Operand} {xt t : TypeId} {v : Value} {fs : Array Field} (ho : o.op = .typeAssert x xt t true) (ht : P.underlying t = some (.struct fs)) (hx : evO e x = some (.iface t v)) : OpR P N e w o (.tuple #[v, .bool true]) := by
  intro n a ha
  simp [execOp, ho, ha.eval hx, Instr.typeAssert, Sem.run_bind, run_underlying ht, Sem.run_pure]
theorem op_mkFunc0 {o : Oper} {f : FuncId} {xs : List Operand} {vs : List Value} (ho : o.op = .makeFunc (.func f) #[] ⟨xs⟩) (hx : evArgs e xs = some vs) : OpR P N e w o (.func (.func f) #[] ⟨vs⟩) := by
  intro n a ha
  have h1 := evArgs_map ha hx
  simp [execOp, ho, Instr.makeFunc, Sem.run_bind, Sem.run_pure, h1]
theorem gl_defer {ops : Array Oper} {o : Oper} {rest : List Oper} {t : Nat} {fv : Fn} {first cap : Array Value} (hd : o.dst = none) (hg : o.guard = none) (ho : o.op = .defer { callee := .value (.tmp t), args := #[], argTypes := #[] }) (hx : look e t = some (.func fv first cap))
    (h : GL P ⟨N.n, { target := .fn fv cap, args := first } :: N.ds⟩ ops e rest Q w) : GL P N ops e (o :: rest) Q w := by
  intro a ha
  refine wpList_plain hg fun K hK => ?_
  unfold Oper.wp
  have hv : a.eval (.tmp t) = .func fv first cap := ha.eval (x := .tmp t) hx
  have hr : (execOp a.eval o).run P w = .ok (.defer { target := .fn fv cap, args := first }) w := by
    simp [execOp, ho, resolve, hv, Deferred.ofValue, Sem.run_bind, Sem.run_pure]
  rw [hr]
  show K ({ a with defers := _ :: a.defers }.put o.dst undef) w
  rw [hd]
  exact hK _ _ (h _ ⟨by show _ :: a.defers = _ :: N.ds; rw [ha.defers], ha.size, ha.get⟩)
theorem gc_conseq {c : Code} (hq : ∀ x a w, Q' x a w → Q x a w) (h : GC P N e c Q' w) : GC P N e c Q w := fun a ha b k cs => by
  obtain ⟨x, a', w', h1, h2⟩ := h a ha b k cs
  exact ⟨x, a', w', hq _ _ _ h1, h2⟩
theorem gc_enterD {f : FuncId} {fn : Func} {c : Code} {vals : List Value} {R : Ending → World → Prop} (hf : P.funcs[f]? = some fn) (hb : fn.body = some c)
    (hN : fn.ntmps = N) (hl0 : Nat.ble vals.length N = true) (e : Env) (he : e = (List.range vals.length).zip vals) (h : GC P N e c (bodyPostD P fn R) w) (hds : N.ds = [] := by rfl) : Calls P f ⟨vals⟩ w R := by
  have hl := Nat.le_of_ble_eq_true hl0
  subst he
  refine calls_of_wp_defers hf hb (h _ ⟨hds.symm, by simp [hN]; omega, fun t v hv => ?_⟩)
  have hz : ∀ (l : List Value) (k : Nat) (t : Nat) (v : Value), look ((List.range' k l.length).zip l) t = some v → k ≤ t ∧ l[t - k]? = some v := by
    intro l
    induction l with
    | nil => intro k t v hh; simp [look] at hh
    | cons x l ih =>
      intro k t v hh
      rw [List.length_cons, List.range'_succ, List.zip_cons_cons] at hh
      rcases look_cons hh with ⟨rfl, rfl⟩ | ⟨hne, hh⟩
      · simp
      · obtain ⟨h1, h2⟩ := ih _ _ _ hh
        refine ⟨by omega, ?_⟩
        rw [show t - k = (t - (k + 1)) + 1 by omega]
        simpa using h2
  obtain ⟨_, h2⟩ := hz vals 0 t v (by rwa [← List.range_eq_range'])
  have hlt : t < vals.length := by
    rcases Nat.lt_or_ge t vals.length with h | h
    · exact h
    · rw [Nat.sub_zero, List.getElem?_eq_none h] at h2; cases h2
  simp only [Nat.sub_zero] at h2
  rw [Array.getElem?_append_left (by simpa using hlt)]
  simpa using h2
theorem St.moveIn {x : It} (h : St B w0 w (L ++ [x])) (k : Nat) : St B w0 w (L.take k ++ x :: L.drop k) := by
  have hp : (L ++ [x]).Perm (L.take k ++ x :: L.drop k) := by
    have h1 : L ++ [x] = L.take k ++ (L.drop k ++ [x]) := by rw [← List.append_assoc, List.take_append_drop]
    rw [h1]
    exact List.Perm.append_left _ List.perm_append_comm
  exact ⟨h.1, fun it hi => h.2.1 it (hp.mem_iff.2 hi), hp.pairwise h.2.2 fun {x y} hxy b hb hb2 => hxy b hb2 hb⟩
end
end Go.Proofs.YtnomlloaahoceaaDoor


/- The seat's types, as a table, and that the program's are these. No condition. -/
namespace Go.Proofs.YtnomlloaahoceaaDoor
def T : TyTab := [(2, .int .i64), (3, .int .i64), (4, .bool), (5, .int .u8), (6, .int .u8), (9, .string), (10, .string), (11, .string), (12, .int .u64), (15, .pointer 175), (16, .pointer 178), (17, .pointer 186), (21, .int .i32), (22, .slice 62), (23, .slice 22), (26, .slice 77), (27, .slice 26), (31, .slice 5), (34, .int .i64), (52, .pointer 54), (62, .float .f64), (63, .slice 102), (66, .slice 65), (67, .slice 9), (77, .int .u64), (85, .int .u32), (87, .slice 31), (88, .slice 3), (93, .int .u64), (97, .slice 100), (99, .pointer 65), (100, .pointer 3), (102, .complex .f64), (105, .pointer 108), (106, .slice 61), (114, .pointer 116), (124, .array 16 85), (159, .map 9 3), (165, .array 8 164), (168, .array 8 3), (169, .array 256 5), (172, .array 16 171), (176, .array 0 16), (179, .int .u8), (180, .int .u8), (182, .pointer 5), (183, .int .i32), (184, .int .i32)]
theorem el3 : Elem Tryd.prog 3 (.int .i64 0) 1 8 := Elem.of (by kernel_rfl) rfl (by decide)
theorem el5 : Elem Tryd.prog 5 (.int .u8 0) 1 1 := Elem.of (by kernel_rfl) rfl (by decide)
theorem el22 : Elem Tryd.prog 22 (.slice none 0 0) 1 24 := Elem.of (by kernel_rfl) rfl (by decide)
theorem el23 : Elem Tryd.prog 23 (.slice none 0 0) 1 24 := Elem.of (by kernel_rfl) rfl (by decide)
theorem el25 : Elem Tryd.prog 25 (.agg #[.slice none 0 0, .slice none 0 0, .int .i64 0, .slice none 0 0, .int .i64 0, .int .i64 0, .int .i64 0]) 7 104 := Elem.of (by kernel_rfl) rfl (by decide)
theorem el26 : Elem Tryd.prog 26 (.slice none 0 0) 1 24 := Elem.of (by kernel_rfl) rfl (by decide)
theorem el27 : Elem Tryd.prog 27 (.slice none 0 0) 1 24 := Elem.of (by kernel_rfl) rfl (by decide)
theorem el29 : Elem Tryd.prog 29 (.agg #[.slice none 0 0, .slice none 0 0, .int .i64 0, .slice none 0 0, .int .i64 0, .int .i64 0, .int .i64 0]) 7 104 := Elem.of (by kernel_rfl) rfl (by decide)
theorem el31 : Elem Tryd.prog 31 (.slice none 0 0) 1 24 := Elem.of (by kernel_rfl) rfl (by decide)
theorem el34 : Elem Tryd.prog 34 (.int .i64 0) 1 8 := Elem.of (by kernel_rfl) rfl (by decide)
theorem el54 : Elem Tryd.prog 54 (.agg #[.slice none 0 0, .int .i64 0]) 2 32 := Elem.of (by kernel_rfl) rfl (by decide)
theorem el61 : Elem Tryd.prog 61 (.agg #[.int .i64 0, .int .i64 0, .int .i64 0]) 3 24 := Elem.of (by kernel_rfl) rfl (by decide)
theorem el62 : Elem Tryd.prog 62 (.float .f64 0) 1 8 := Elem.of (by kernel_rfl) rfl (by decide)
theorem el63 : Elem Tryd.prog 63 (.slice none 0 0) 1 24 := Elem.of (by kernel_rfl) rfl (by decide)
theorem el65 : Elem Tryd.prog 65 (.agg #[.int .i64 0, .int .i64 0, .int .i64 0, .int .i64 0, .int .i64 0, .int .i64 0, .int .i64 0, .int .i64 0, .int .i64 0, .float .f64 0, .slice none 0 0, .slice none 0 0, .slice none 0 0, .slice none 0 0]) 14 176 := Elem.of (by kernel_rfl) rfl (by decide)
theorem el66 : Elem Tryd.prog 66 (.slice none 0 0) 1 24 := Elem.of (by kernel_rfl) rfl (by decide)
theorem el67 : Elem Tryd.prog 67 (.slice none 0 0) 1 24 := Elem.of (by kernel_rfl) rfl (by decide)
theorem el69 : Elem Tryd.prog 69 (.agg #[.int .i64 0, .int .i64 0, .int .i64 0, .slice none 0 0, .slice none 0 0]) 5 72 := Elem.of (by kernel_rfl) rfl (by decide)
theorem el77 : Elem Tryd.prog 77 (.int .u64 0) 1 8 := Elem.of (by kernel_rfl) rfl (by decide)
theorem el85 : Elem Tryd.prog 85 (.int .u32 0) 1 4 := Elem.of (by kernel_rfl) rfl (by decide)
theorem el102 : Elem Tryd.prog 102 (.complex .f64 0 0) 1 16 := Elem.of (by kernel_rfl) rfl (by decide)
theorem el106 : Elem Tryd.prog 106 (.slice none 0 0) 1 24 := Elem.of (by kernel_rfl) rfl (by decide)
theorem el124 : Elem Tryd.prog 124 (.agg #[.int .u32 0, .int .u32 0, .int .u32 0, .int .u32 0, .int .u32 0, .int .u32 0, .int .u32 0, .int .u32 0, .int .u32 0, .int .u32 0, .int .u32 0, .int .u32 0, .int .u32 0, .int .u32 0, .int .u32 0, .int .u32 0]) 16 64 := Elem.of (by kernel_rfl) rfl (by decide)
theorem el130 : Elem Tryd.prog 130 (.agg #[.int .i64 0, .int .i64 0]) 2 16 := Elem.of (by kernel_rfl) rfl (by decide)
theorem el164 : Elem Tryd.prog 164 (.agg #[.int .i64 0, .int .i64 0]) 2 16 := Elem.of (by kernel_rfl) rfl (by decide)
theorem el165 : Elem Tryd.prog 165 (.agg #[.int .i64 0, .int .i64 0, .int .i64 0, .int .i64 0, .int .i64 0, .int .i64 0, .int .i64 0, .int .i64 0, .int .i64 0, .int .i64 0, .int .i64 0, .int .i64 0, .int .i64 0, .int .i64 0, .int .i64 0, .int .i64 0]) 16 128 := Elem.of (by kernel_rfl) rfl (by decide)
theorem hT : TabOk Tryd.prog T := ⟨Tryd.underlying2, Tryd.underlying3, Tryd.underlying4, Tryd.underlying5, Tryd.underlying6, Tryd.underlying9, Tryd.underlying10, Tryd.underlying11, Tryd.underlying12, Tryd.underlying15, Tryd.underlying16, Tryd.underlying17, Tryd.underlying21, Tryd.underlying22, Tryd.underlying23, Tryd.underlying26, Tryd.underlying27, Tryd.underlying31, Tryd.underlying34, Tryd.underlying52, Tryd.underlying62, Tryd.underlying63, Tryd.underlying66, Tryd.underlying67, Tryd.underlying77, Tryd.underlying85, Tryd.underlying87, Tryd.underlying88, Tryd.underlying93, Tryd.underlying97, Tryd.underlying99, Tryd.underlying100, Tryd.underlying102, Tryd.underlying105, Tryd.underlying106, Tryd.underlying114, Tryd.underlying124, Tryd.underlying159, Tryd.underlying165, Tryd.underlying168, Tryd.underlying169, Tryd.underlying172, Tryd.underlying176, Tryd.underlying179, Tryd.underlying180, Tryd.underlying182, Tryd.underlying183, Tryd.underlying184, trivial⟩
end Go.Proofs.YtnomlloaahoceaaDoor


/- Contracts of small functions. No condition. -/
namespace Go.Proofs.YtnomlloaahoceaaDoor
open Go.RowKit
set_option linter.unusedVariables false
set_option linter.unusedSimpArgs false
theorem outside_calls (A : Option Addr) (c : Nat) (l : List UInt8) (i : Int) (w : World) :
    Calls Tryd.prog 93 ⟨[.slice A l.length c, .int .i64 i]⟩ w fun e w' => e = .returned (.bool (decide (i < 0 ∨ l.length < i))) ∧ Eqv w w' := by
  refine gc_enter (N := 13) Tryd.func93 rfl rfl rfl [(0, _), (1, _)] rfl ?_
  refine gc_seq fun K1 hK1 => ?_
  refine gc_region ?_
  refine gl_op rfl rfl rfl (op_pure hT rfl) ?_
  refine gl_nil ?_
  refine hK1 _ _ ?_
  clear hK1; try clear K1
  refine gc_seq fun K2 hK2 => ?_
  refine gc_region ?_
  refine gl_op rfl rfl rfl (op_pure hT rfl) ?_
  refine gl_op rfl rfl rfl (op_pure hT rfl) ?_
  refine gl_op rfl rfl rfl (op_pure hT rfl) ?_
  refine gl_split (t := 7) rfl (fun c7 => ?_) (fun c7 => ?_)
  · try simp only [decide_eq_true_eq, decide_eq_false_iff_not, Bool.not_eq_true', Bool.not_eq_false', Int.not_lt, Int.not_le, Nat.not_lt, Nat.not_le, Bool.true_eq, Bool.false_eq, reduceCtorEq] at c7
    refine gl_pass rfl rfl rfl rfl rfl rfl ?_
    refine gl_pass rfl rfl rfl rfl rfl rfl ?_
    refine gl_pass rfl rfl rfl rfl rfl rfl ?_
    refine gl_pass rfl rfl rfl rfl rfl rfl ?_
    refine gl_op rfl rfl rfl (op_pure hT rfl) ?_
    refine gl_op rfl rfl rfl (op_pure hT rfl) ?_
    refine gl_nil ?_
    refine hK2 _ _ ?_
    clear hK2; try clear K2
    refine gc_ret ?_
    try simp only [x_then_ret, x_block_ret]
    refine gk_ret1 rfl rfl ?_
    exact ⟨by simp [c7], Eqv.refl _⟩
  · try simp only [decide_eq_true_eq, decide_eq_false_iff_not, Bool.not_eq_true', Bool.not_eq_false', Int.not_lt, Int.not_le, Nat.not_lt, Nat.not_le, Bool.true_eq, Bool.false_eq, reduceCtorEq] at c7
    refine gl_un rfl rfl rfl rfl ?_
    refine gl_op rfl rfl rfl (op_pure hT rfl) ?_
    refine gl_un rfl rfl rfl rfl ?_
    refine gl_op rfl rfl rfl (op_pure hT rfl) ?_
    refine gl_un rfl rfl rfl rfl ?_
    refine gl_op rfl rfl rfl (op_pure hT rfl) ?_
    refine gl_un rfl rfl rfl rfl ?_
    refine gl_op rfl rfl rfl (op_pure hT rfl) ?_
    refine gl_op rfl rfl rfl (op_pure hT rfl) ?_
    refine gl_op rfl rfl rfl (op_pure hT rfl) ?_
    refine gl_nil ?_
    refine hK2 _ _ ?_
    clear hK2; try clear K2
    refine gc_ret ?_
    try simp only [x_then_ret, x_block_ret]
    refine gk_ret1 rfl rfl ?_
    exact ⟨by simp; omega, Eqv.refl _⟩
end Go.Proofs.YtnomlloaahoceaaDoor


/- Plain words for chapter 1: numbers as bytes. No program in sight; no condition. -/
namespace Go.Proofs.YtnomlloaahoceaaDoor
set_option linter.unusedVariables false

def toB (x : Int) : UInt8 := UInt8.ofNat x.toNat
theorem toB_toNat {x : Int} (h0 : 0 ≤ x) (h1 : x < 256) : ((toB x).toNat : Int) = x := by
  unfold toB
  rw [UInt8.toNat_ofNat']
  omega
theorem uB_toB {x : Int} (h0 : 0 ≤ x) (h1 : x < 256) : Value.int .u8 x = uB (toB x) := by
  unfold uB; rw [toB_toNat h0 h1]
theorem u8_range (b : UInt8) : (0 : Int) ≤ b.toNat ∧ (b.toNat : Int) < 256 := by
  have := b.toNat_lt; omega
theorem or128 (x : Int) : bits .or .u8 (IntKind.u8.wrap x) 128 = 128 + x % 128 := by
  rw [IntKind.wrap_u8]
  rw [u8_or _ _ (by omega) (by omega) (by decide) (by decide)]
  have h : (x % 256).toNat < 256 := by omega
  have e : ∀ n : Nat, n < 256 → n ||| (128 : Int).toNat = 128 + n % 128 := by
    intro n hn
    show n ||| 128 = _
    by_cases h : n < 128
    · rw [Nat.or_comm, nat_join 7 128 n (by decide) (by omega)]; omega
    · have e1 : n = 128 + (n - 128) := by omega
      rw [e1, ← nat_join 7 128 (n - 128) (by decide) (by omega), Nat.or_assoc, Nat.or_comm (n - 128) 128, ← Nat.or_assoc, Nat.or_self, nat_join 7 128 (n - 128) (by decide) (by omega)]; omega
  rw [e _ h]
  omega
def encU (n : Nat) : List UInt8 := if h : n < 128 then [UInt8.ofNat n] else UInt8.ofNat (128 + n % 128) :: encU (n / 128)
termination_by n
decreasing_by omega
theorem encU_small {n : Nat} (h : n < 128) : encU n = [UInt8.ofNat n] := by rw [encU, dif_pos h]
theorem encU_big {n : Nat} (h : ¬ n < 128) : encU n = UInt8.ofNat (128 + n % 128) :: encU (n / 128) := by rw [encU, dif_neg h]
theorem encU_len (k : Nat) : ∀ n, n < 128 ^ (k + 1) → (encU n).length ≤ k + 1 := by
  induction k with
  | zero => intro n h; rw [encU_small (by simpa using h)]; simp
  | succ k ih =>
    intro n h
    by_cases hn : n < 128
    · rw [encU_small hn]; simp
    · rw [encU_big hn]
      have := ih (n / 128) (by rw [Nat.div_lt_iff_lt_mul (by decide)]; rw [Nat.pow_succ] at h; exact h)
      simp; omega
def uintV (n : Int) : List UInt8 × Int := if n < 0 then ([], 1) else (encU n.toNat, 0)
theorem ofInt_i64' (a : Nat) (ha : a < 9223372036854775808) : (BitVec.ofInt 64 (a : Int)).toNat = a := by
  rw [BitVec.ofInt_natCast, BitVec.toNat_ofNat]; exact Nat.mod_eq_of_lt (by omega)
theorem i64_or_nat (a b : Nat) (ha : a < 9223372036854775808) (hb : b < 9223372036854775808) : bits .or .i64 (a : Int) (b : Int) = ((a ||| b : Nat) : Int) := by
  have hx : a ||| b < 2 ^ 63 := Nat.or_lt_two_pow (by omega) (by omega)
  show IntKind.i64.wrap ((BitVec.ofInt 64 (a : Int) ||| BitVec.ofInt 64 (b : Int)).toNat : Int) = _
  rw [BitVec.toNat_or, ofInt_i64' a ha, ofInt_i64' b hb, IntKind.wrap_i64]
  omega
theorem pow128 (i : Nat) : (2 : Nat) ^ (7 * i) = 128 ^ i := by rw [Nat.pow_mul]
theorem pow128_le {i j : Nat} (h : i ≤ j) : 128 ^ i ≤ 128 ^ j := Nat.pow_le_pow_right (by decide) h
theorem or_step (v c i : Nat) (hi : i ≤ 8) (hv : v < 128 ^ i) (hc : c < 128) :
    bits .or .i64 (v : Int) (IntKind.i64.wrap ((c : Int) * 2 ^ (7 * (i : Int)).toNat)) = ((v + c * 128 ^ i : Nat) : Int) ∧ v + c * 128 ^ i < 128 ^ (i + 1) := by
  have e1 : (7 * (i : Int)).toNat = 7 * i := by omega
  have e2 : ((c : Int) * 2 ^ (7 * i)) = ((c * 128 ^ i : Nat) : Int) := by
    rw [← pow128]; push_cast; rfl
  have h9 : 128 ^ (i + 1) ≤ 128 ^ 9 := pow128_le (by omega)
  have h10 : c * 128 ^ i ≤ 127 * 128 ^ i := Nat.mul_le_mul_right _ (by omega)
  have h11 : 128 ^ (i + 1) = 128 * 128 ^ i := by rw [Nat.pow_succ, Nat.mul_comm]
  have hlt : v + c * 128 ^ i < 128 ^ (i + 1) := by omega
  have h12 : (128 : Nat) ^ 9 = 9223372036854775808 := by decide
  refine ⟨?_, hlt⟩
  rw [e1, e2, wrap_i64 (by omega), i64_or_nat _ _ (by omega) (by omega)]
  congr 1
  rw [Nat.or_comm, nat_join (7 * i) (c * 128 ^ i) v (by rw [← pow128]; exact Nat.mul_mod_left _ _) (by rw [pow128]; exact hv), Nat.add_comm]
def rdGo (l : List UInt8) (at_ : Nat) : Nat → Nat → Nat → Int × Int × Int
  | 0, _, _ => (0, 0, 12)
  | k + 1, i, v =>
    if l.length ≤ at_ + i then (0, 0, 10) else
    let c := (l.getD (at_ + i) 0).toNat
    if c < 128 then (if c = 0 ∧ 0 < i then (0, 0, 11) else (((v + c % 128 * 128 ^ i : Nat) : Int), ((at_ + i + 1 : Nat) : Int), 0))
    else rdGo l at_ k (i + 1) (v + c % 128 * 128 ^ i)
def readUV (l : List UInt8) (at_ : Int) : Int × Int × Int := if at_ < 0 ∨ (l.length : Int) < at_ then (0, 0, 1) else rdGo l at_.toNat 9 0 0
theorem rdGo_short {l : List UInt8} {at_ k i v : Nat} (h : l.length ≤ at_ + i) : rdGo l at_ (k + 1) i v = (0, 0, 10) := by rw [rdGo, if_pos h]
theorem rdGo_form {l : List UInt8} {at_ k i v : Nat} (h : at_ + i < l.length) (h0 : (l.getD (at_ + i) 0).toNat = 0) (hi : 0 < i) : rdGo l at_ (k + 1) i v = (0, 0, 11) := by
  rw [rdGo, if_neg (by omega)]; simp only; rw [if_pos (by omega), if_pos ⟨h0, hi⟩]
theorem rdGo_end {l : List UInt8} {at_ k i v : Nat} (h : at_ + i < l.length) (h1 : (l.getD (at_ + i) 0).toNat < 128) (h0 : ¬ ((l.getD (at_ + i) 0).toNat = 0 ∧ 0 < i)) :
    rdGo l at_ (k + 1) i v = (((v + (l.getD (at_ + i) 0).toNat % 128 * 128 ^ i : Nat) : Int), ((at_ + i + 1 : Nat) : Int), 0) := by
  rw [rdGo, if_neg (by omega)]; simp only; rw [if_pos h1, if_neg h0]
theorem rdGo_more {l : List UInt8} {at_ k i v : Nat} (h : at_ + i < l.length) (h1 : 128 ≤ (l.getD (at_ + i) 0).toNat) :
    rdGo l at_ (k + 1) i v = rdGo l at_ k (i + 1) (v + (l.getD (at_ + i) 0).toNat % 128 * 128 ^ i) := by
  rw [rdGo, if_neg (by omega)]; simp only; rw [if_neg (by omega)]
end Go.Proofs.YtnomlloaahoceaaDoor


/- Contracts of functions that make bytes. No condition. -/
namespace Go.Proofs.YtnomlloaahoceaaDoor
open Go.RowKit
set_option linter.unusedVariables false
set_option linter.unusedSimpArgs false
def marks : List UInt8 := [201, 202, 203] ++ List.replicate 70 206
end Go.Proofs.YtnomlloaahoceaaDoor


/- Contracts of functions that make bytes, more. No condition. -/
namespace Go.Proofs.YtnomlloaahoceaaDoor
open Go.RowKit
set_option linter.unusedVariables false
set_option linter.unusedSimpArgs false
theorem Clip_calls (A : Option Addr) (c n : Nat) (h : n ≤ c) (w : World) :
    Calls Tryd.prog 70 ⟨[.slice A n c]⟩ w fun e w' => e = .returned (.slice A n n) ∧ Eqv w w' := by
  refine gc_enter (N := 9) Tryd.func70 rfl rfl rfl [(0, _)] rfl ?_
  refine gc_seq fun K1 hK1 => ?_
  refine gc_region ?_
  refine gl_op rfl rfl rfl (op_pure hT rfl) ?_
  refine gl_nil ?_
  refine hK1 _ _ ?_
  clear hK1; try clear K1
  refine gc_seq fun K2 hK2 => ?_
  refine gc_region ?_
  refine gl_op rfl rfl rfl (op_pure hT rfl) ?_
  refine gl_op rfl rfl rfl (op_pure hT rfl) ?_
  refine gl_op rfl rfl rfl (op_pure hT rfl) ?_
  refine gl_op rfl rfl rfl (op_pure hT rfl) ?_
  refine gl_op rfl rfl rfl (op_pure hT rfl) ?_
  refine gl_op rfl rfl rfl (op_slice_hm hT el5 rfl rfl rfl rfl rfl (by first | omega | (simp; omega)) (by first | omega | (simp; omega)) (by first | omega | (simp; omega))) ?_
  refine gl_op rfl rfl rfl (op_pure hT rfl) ?_
  refine gl_nil ?_
  refine hK2 _ _ ?_
  clear hK2; try clear K2
  refine gc_ret ?_
  try simp only [x_then_ret, x_block_ret]
  refine gk_ret1 rfl rfl ?_
  exact ⟨rfl, Eqv.refl _⟩
theorem Uint_calls (n : Int) (hn : n ≤ 9223372036854775807) (w : World) :
    Calls Tryd.prog 39 ⟨[.int .i64 n]⟩ w fun e w' => ∃ A c, e = .returned (.tuple #[.slice A (uintV n).1.length c, .int .i64 (uintV n).2]) ∧
      Owns w' w.heap.size A c 5 1 (uintV n).1.length ((uintV n).1.map uB) ∧ Below w.heap.size w w' := by
  refine gc_enter (N := 23) Tryd.func39 rfl rfl rfl [(0, _)] rfl ?_
  have hS := St.start w
  refine gc_seq fun K1 hK1 => ?_
  refine gc_region ?_
  refine gl_op rfl rfl rfl (op_pure hT rfl) ?_
  refine gl_op rfl rfl rfl (op_pure hT rfl) ?_
  refine gl_nil ?_
  refine hK1 _ _ ?_
  clear hK1; try clear K1
  refine gc_seq fun K2 hK2 => ?_
  refine gc_seq fun K3 hK3 => ?_
  refine gc_region ?_
  refine gl_op rfl rfl rfl (op_pure hT rfl) ?_
  refine gl_op rfl rfl rfl (op_pure hT rfl) ?_
  refine gl_nil ?_
  refine hK3 _ _ ?_
  clear hK3; try clear K3
  refine gc_cond rfl rfl (fun c6 => ?_) (fun c6 => ?_)
  · try simp only [decide_eq_true_eq, decide_eq_false_iff_not, Bool.not_eq_true', Bool.not_eq_false', Int.not_lt, Int.not_le, Nat.not_lt, Nat.not_le, Bool.true_eq, Bool.false_eq, reduceCtorEq] at c6
    refine gc_seq fun K4 hK4 => ?_
    refine gc_region ?_
    refine gl_op rfl rfl rfl (op_pure hT rfl) ?_
    refine gl_op rfl rfl rfl (op_pure hT rfl) ?_
    refine gl_nil ?_
    refine hK4 _ _ ?_
    clear hK4; try clear K4
    refine gc_ret ?_
    try simp only [x_then_ret, x_block_ret]
    refine gk_ret2 rfl rfl rfl ?_
    have e : uintV n = ([], 1) := by simp [uintV, c6]
    rw [e]
    exact ⟨none, 0, rfl, ⟨by simp, .inl ⟨rfl, rfl, rfl⟩⟩, hS.below⟩
  · try simp only [decide_eq_true_eq, decide_eq_false_iff_not, Bool.not_eq_true', Bool.not_eq_false', Int.not_lt, Int.not_le, Nat.not_lt, Nat.not_le, Bool.true_eq, Bool.false_eq, reduceCtorEq] at c6
    refine gc_skip ?_
    refine hK2 _ _ ?_
    clear hK2; try clear K2
    refine gc_seq fun K5 hK5 => ?_
    refine gc_region ?_
    refine gl_op rfl rfl rfl (op_pure hT rfl) ?_
    refine gl_nil ?_
    refine hK5 _ _ ?_
    clear hK5; try clear K5
    refine gc_seq fun K6 hK6 => ?_
    refine gc_block ?_
    have hS := hS.nil 5 1
    have hlen := encU_len 8 n.toNat (by omega)
    refine gc_loop (fun k a w' => ∃ (n' : Int) (l : List UInt8) (A : Option Addr) (c : Nat), Fr 23 a [(0, .int .i64 n'), (4, .slice A l.length c)] ∧ 0 ≤ n' ∧ n'.toNat < k ∧ l ++ encU n'.toNat = encU n.toNat ∧
      St w.heap.size w w' [.row A c 5 1 l.length (l.map uB)]) (n.toNat + 1) ?_ ?_ ?_
    · intro a ha; exact ⟨n, [], _, _, ha.sub ⟨rfl, rfl, trivial⟩, by omega, by omega, rfl, hS⟩
    · rintro a w ⟨n', _, _, _, _, _, h1, _⟩; omega
    rintro k a w1 ⟨n', l, A, c, hF, h0, hk, he, hS⟩
    refine gc_of hF ?_
    have hll : l.length ≤ 9 := by have := congrArg List.length he; simp at this; omega
    refine gc_seq fun K7 hK7 => ?_
    refine gc_seq fun K8 hK8 => ?_
    refine gc_region ?_
    refine gl_op rfl rfl rfl (op_pure hT rfl) ?_
    refine gl_op rfl rfl rfl (op_pure hT rfl) ?_
    refine gl_nil ?_
    refine hK8 _ _ ?_
    clear hK8; try clear K8
    refine gc_cond rfl rfl (fun c8 => ?_) (fun c8 => ?_)
    · try simp only [decide_eq_true_eq, decide_eq_false_iff_not, Bool.not_eq_true', Bool.not_eq_false', Int.not_lt, Int.not_le, Nat.not_lt, Nat.not_le, Bool.true_eq, Bool.false_eq, reduceCtorEq] at c8
      refine gc_skip ?_
      refine hK7 _ _ ?_
      clear hK7; try clear K7
      refine gc_seq fun K9 hK9 => ?_
      refine gc_block ?_
      refine gc_region ?_
      refine gl_op rfl rfl rfl (op_pure hT rfl) ?_
      refine gl_op rfl rfl rfl (op_pure hT rfl) ?_
      refine gl_op rfl rfl rfl (op_pure hT rfl) ?_
      refine gl_op rfl rfl rfl (op_pure hT rfl) ?_
      refine gl_lit hT hS el5 rfl rfl rfl rfl rfl rfl rfl rfl rfl fun g15 w15 hS => ?_
      refine gl_append 0 hT hS el5 (hS.rd (i := 1) rfl) (rfl) rfl rfl rfl rfl rfl rfl rfl rfl (by first | omega | (simp; omega)) (by first | omega | (simp; omega)) fun A16 c16 w16 hS => ?_
      have hS := hS.erase 1
      refine gl_op rfl rfl rfl (op_pure hT rfl) ?_
      refine gl_nil ?_
      refine hK9 _ _ ?_
      clear hK9; try clear K9
      refine gc_region ?_
      refine gl_op rfl rfl rfl (op_pure hT rfl) ?_
      refine gl_op rfl rfl rfl (op_pure hT rfl) ?_
      refine gl_op rfl rfl rfl (op_pure hT rfl) ?_
      refine gl_nil ?_
      intro a ha
      have e1 : encU n'.toNat = UInt8.ofNat (128 + n'.toNat % 128) :: encU (n'.toNat / 128) := encU_big (by omega)
      refine ⟨n' / 128, l ++ [UInt8.ofNat (128 + n'.toNat % 128)], _, _, ha.sub ⟨by rfl, by simp; rfl, trivial⟩, by omega, by omega, ?_, ?_⟩
      · rw [← he, e1]
        have : (n' / 128).toNat = n'.toNat / 128 := by omega
        rw [this]; simp
      · have e2 : Value.int .u8 (bits .or .u8 (IntKind.u8.wrap n') 128) = uB (UInt8.ofNat (128 + n'.toNat % 128)) := by
          rw [or128, uB_toB (by omega) (by omega)]
          have : (128 + n' % 128).toNat = 128 + n'.toNat % 128 := by omega
          unfold toB; rw [this]
        rw [e2] at hS
        simpa using hS
    · try simp only [decide_eq_true_eq, decide_eq_false_iff_not, Bool.not_eq_true', Bool.not_eq_false', Int.not_lt, Int.not_le, Nat.not_lt, Nat.not_le, Bool.true_eq, Bool.false_eq, reduceCtorEq] at c8
      refine gc_exit ?_
      refine hK6 _ _ ?_
      clear hK6; try clear K6
      refine gc_seq fun K10 hK10 => ?_
      refine gc_region ?_
      refine gl_op rfl rfl rfl (op_pure hT rfl) ?_
      refine gl_op rfl rfl rfl (op_pure hT rfl) ?_
      refine gl_op rfl rfl rfl (op_pure hT rfl) ?_
      refine gl_lit hT hS el5 rfl rfl rfl rfl rfl rfl rfl rfl rfl fun g20 w20 hS => ?_
      refine gl_append 0 hT hS el5 (hS.rd (i := 1) rfl) (rfl) rfl rfl rfl rfl rfl rfl rfl rfl (by first | omega | (simp; omega)) (by first | omega | (simp; omega)) fun A21 c21 w21 hS => ?_
      have hS := hS.erase 1
      refine gl_callf rfl rfl rfl rfl Tryd.func70 rfl rfl rfl (Clip_calls _ _ _ (hS.cap (i := 0) rfl).1 _) ?_
      rintro _ _ ⟨rfl, n22, rfl⟩
      refine ⟨_, rfl, ?_⟩
      have hS := hS.dr n22
      refine gl_op rfl rfl rfl (op_pure hT rfl) ?_
      refine gl_op rfl rfl rfl (op_pure hT rfl) ?_
      refine gl_nil ?_
      refine hK10 _ _ ?_
      clear hK10; try clear K10
      refine gc_ret ?_
      try simp only [x_then_ret, x_block_ret]
      refine gk_ret2 rfl rfl rfl ?_
      have e1 : encU n'.toNat = [UInt8.ofNat n'.toNat] := encU_small (by omega)
      have e2 : uintV n = (l ++ [UInt8.ofNat n'.toNat], 0) := by rw [uintV, if_neg (by omega), ← he, e1]
      have e3 : Value.int .u8 (IntKind.u8.wrap n') = uB (UInt8.ofNat n'.toNat) := by rw [IntKind.wrap_u8, Int.emod_eq_of_lt h0 (by omega), uB_toB h0 (by omega)]; rfl
      obtain ⟨h2, h3⟩ := hS.out (i := 0) rfl
      have h4 := h2.clip (c' := l.length + 1) (Nat.le_refl _) h2.cap.1
      rw [e3] at h4
      rw [e2]
      exact ⟨A21, l.length + 1, by simp, by simpa using h4, h3⟩
end Go.Proofs.YtnomlloaahoceaaDoor


/- Contracts of the readers of whole numbers. No condition. -/
namespace Go.Proofs.YtnomlloaahoceaaDoor
open Go.RowKit
set_option linter.unusedVariables false
set_option linter.unusedSimpArgs false
theorem u8_and127 (x : UInt8) : bits .and .u8 (x.toNat : Int) 127 = ((x.toNat % 128 : Nat) : Int) := by
  have := u8_range x
  have h := u8_and_nat x.toNat 127 (by omega) (by decide)
  rw [nat_mask7] at h
  exact h
theorem ReadUint_calls (A : Option Addr) (c : Nat) (l : List UInt8) (at_ : Int) (w : World) {ok : Nat → Prop} (h1 : RdE w ok uB A l) (hb : l.length ≤ 4611686018427387904) :
    Calls Tryd.prog 75 ⟨[.slice A l.length c, .int .i64 at_]⟩ w fun e w' => e = .returned (.tuple #[.int .i64 (readUV l at_).1, .int .i64 (readUV l at_).2.1, .int .i64 (readUV l at_).2.2]) ∧ Eqv w w' := by
  refine gc_enter (N := 59) Tryd.func75 rfl rfl rfl [(0, _), (1, _)] rfl ?_
  refine gc_seq fun K1 hK1 => ?_
  refine gc_region ?_
  refine gl_op rfl rfl rfl (op_pure hT rfl) ?_
  refine gl_op rfl rfl rfl (op_pure hT rfl) ?_
  refine gl_op rfl rfl rfl (op_pure hT rfl) ?_
  refine gl_nil ?_
  refine hK1 _ _ ?_
  clear hK1; try clear K1
  refine gc_seq fun K2 hK2 => ?_
  refine gc_seq fun K3 hK3 => ?_
  refine gc_region ?_
  refine gl_op rfl rfl rfl (op_pure hT rfl) ?_
  refine gl_op rfl rfl rfl (op_pure hT rfl) ?_
  refine gl_op rfl rfl rfl (op_pure hT rfl) ?_
  refine gl_split (t := 12) rfl (fun c12 => ?_) (fun c12 => ?_)
  · try simp only [decide_eq_true_eq, decide_eq_false_iff_not, Bool.not_eq_true', Bool.not_eq_false', Int.not_lt, Int.not_le, Nat.not_lt, Nat.not_le, Bool.true_eq, Bool.false_eq, reduceCtorEq] at c12
    refine gl_pass rfl rfl rfl rfl rfl rfl ?_
    refine gl_pass rfl rfl rfl rfl rfl rfl ?_
    refine gl_pass rfl rfl rfl rfl rfl rfl ?_
    refine gl_pass rfl rfl rfl rfl rfl rfl ?_
    refine gl_op rfl rfl rfl (op_pure hT rfl) ?_
    refine gl_nil ?_
    refine hK3 _ _ ?_
    clear hK3; try clear K3
    refine gc_cond_t rfl ?_
    refine gc_seq fun K4 hK4 => ?_
    refine gc_region ?_
    refine gl_op rfl rfl rfl (op_pure hT rfl) ?_
    refine gl_op rfl rfl rfl (op_pure hT rfl) ?_
    refine gl_op rfl rfl rfl (op_pure hT rfl) ?_
    refine gl_nil ?_
    refine hK4 _ _ ?_
    clear hK4; try clear K4
    refine gc_ret ?_
    try simp only [x_then_ret, x_block_ret]
    refine gk_ret3 rfl rfl rfl rfl ?_
    exact ⟨by simp [readUV, c12], Eqv.refl _⟩
  · try simp only [decide_eq_true_eq, decide_eq_false_iff_not, Bool.not_eq_true', Bool.not_eq_false', Int.not_lt, Int.not_le, Nat.not_lt, Nat.not_le, Bool.true_eq, Bool.false_eq, reduceCtorEq] at c12
    refine gl_un rfl rfl rfl rfl ?_
    refine gl_op rfl rfl rfl (op_pure hT rfl) ?_
    refine gl_un rfl rfl rfl rfl ?_
    refine gl_op rfl rfl rfl (op_pure hT rfl) ?_
    refine gl_un rfl rfl rfl rfl ?_
    refine gl_op rfl rfl rfl (op_pure hT rfl) ?_
    refine gl_un rfl rfl rfl rfl ?_
    refine gl_op rfl rfl rfl (op_pure hT rfl) ?_
    refine gl_op rfl rfl rfl (op_pure hT rfl) ?_
    refine gl_nil ?_
    refine hK3 _ _ ?_
    clear hK3; try clear K3
    refine gc_cond rfl rfl (fun c17 => ?_) (fun c17 => ?_)
    · try simp only [decide_eq_true_eq, decide_eq_false_iff_not, Bool.not_eq_true', Bool.not_eq_false', Int.not_lt, Int.not_le, Nat.not_lt, Nat.not_le, Bool.true_eq, Bool.false_eq, reduceCtorEq] at c17
      refine gc_seq fun K5 hK5 => ?_
      refine gc_region ?_
      refine gl_op rfl rfl rfl (op_pure hT rfl) ?_
      refine gl_op rfl rfl rfl (op_pure hT rfl) ?_
      refine gl_op rfl rfl rfl (op_pure hT rfl) ?_
      refine gl_nil ?_
      refine hK5 _ _ ?_
      clear hK5; try clear K5
      refine gc_ret ?_
      try simp only [x_then_ret, x_block_ret]
      refine gk_ret3 rfl rfl rfl rfl ?_
      exact ⟨by simp [readUV, c17], Eqv.refl _⟩
    · try simp only [decide_eq_true_eq, decide_eq_false_iff_not, Bool.not_eq_true', Bool.not_eq_false', Int.not_lt, Int.not_le, Nat.not_lt, Nat.not_le, Bool.true_eq, Bool.false_eq, reduceCtorEq] at c17
      refine gc_skip ?_
      refine hK2 _ _ ?_
      clear hK2; try clear K2
      refine gc_seq fun K6 hK6 => ?_
      refine gc_region ?_
      refine gl_op rfl rfl rfl (op_pure hT rfl) ?_
      refine gl_nil ?_
      refine hK6 _ _ ?_
      clear hK6; try clear K6
      refine gc_seq fun K7 hK7 => ?_
      refine gc_region ?_
      refine gl_op rfl rfl rfl (op_pure hT rfl) ?_
      refine gl_nil ?_
      refine hK7 _ _ ?_
      clear hK7; try clear K7
      refine gc_block ?_
      have hat : (at_.toNat : Int) = at_ := Int.toNat_of_nonneg c12
      have hR : readUV l at_ = rdGo l at_.toNat 9 0 0 := by rw [readUV, if_neg (by omega)]
      refine gc_loop (fun k a w' => ∃ i v : Nat, Fr 59 a [(0, .slice A l.length c), (1, .int .i64 at_), (7, .int .i64 v), (8, .int .i64 i)] ∧ i ≤ 8 ∧ k = 9 - i ∧ v < 128 ^ i ∧ rdGo l at_.toNat k i v = readUV l at_ ∧ w = w') 9 ?_ ?_ ?_
      · intro a ha; exact ⟨0, 0, ha.sub ⟨rfl, rfl, rfl, rfl, trivial⟩, by omega, rfl, by decide, hR.symm, rfl⟩
      · rintro a w ⟨i, v, _, h1, h2, _⟩; omega
      rintro k a _ ⟨i, v, hF, hi, hk, hv, hg, rfl⟩
      refine gc_of hF ?_
      refine gc_seq fun K8 hK8 => ?_
      refine gc_block ?_
      refine gc_seq fun K9 hK9 => ?_
      refine gc_seq fun K10 hK10 => ?_
      refine gc_region ?_
      refine gl_op rfl rfl rfl (op_pure hT rfl) ?_
      refine gl_op rfl rfl rfl (op_pure hT rfl) ?_
      first | refine gl_fit hT rfl rfl rfl rfl (by omega) ?_ | refine gl_op rfl rfl rfl (op_pure hT rfl) ?_
      refine gl_op rfl rfl rfl (op_pure hT rfl) ?_
      refine gl_op rfl rfl rfl (op_pure hT rfl) ?_
      refine gl_op rfl rfl rfl (op_pure hT rfl) ?_
      refine gl_nil ?_
      refine hK10 _ _ ?_
      clear hK10; try clear K10
      refine gc_cond rfl rfl (fun c25 => ?_) (fun c25 => ?_)
      · try simp only [decide_eq_true_eq, decide_eq_false_iff_not, Bool.not_eq_true', Bool.not_eq_false', Int.not_lt, Int.not_le, Nat.not_lt, Nat.not_le, Bool.true_eq, Bool.false_eq, reduceCtorEq] at c25
        refine gc_seq fun K11 hK11 => ?_
        refine gc_region ?_
        refine gl_op rfl rfl rfl (op_pure hT rfl) ?_
        refine gl_op rfl rfl rfl (op_pure hT rfl) ?_
        refine gl_op rfl rfl rfl (op_pure hT rfl) ?_
        refine gl_nil ?_
        refine hK11 _ _ ?_
        clear hK11; try clear K11
        refine gc_ret ?_
        try simp only [x_then_ret, x_block_ret]
        refine gk_ret3 rfl rfl rfl rfl ?_
        exact ⟨by rw [← hg, rdGo_short (by omega)], Eqv.refl _⟩
      · try simp only [decide_eq_true_eq, decide_eq_false_iff_not, Bool.not_eq_true', Bool.not_eq_false', Int.not_lt, Int.not_le, Nat.not_lt, Nat.not_le, Bool.true_eq, Bool.false_eq, reduceCtorEq] at c25
        refine gc_skip ?_
        refine hK9 _ _ ?_
        clear hK9; try clear K9
        refine gc_seq fun K12 hK12 => ?_
        refine gc_region ?_
        refine gl_op rfl rfl rfl (op_pure hT rfl) ?_
        refine gl_op rfl rfl rfl (op_pure hT rfl) ?_
        refine gl_op rfl rfl rfl (op_pure hT rfl) ?_
        first | refine gl_fit hT rfl rfl rfl rfl (by omega) ?_ | refine gl_op rfl rfl rfl (op_pure hT rfl) ?_
        refine gl_ix (0 : UInt8) hT h1 rfl rfl rfl rfl rfl el5.cellsOf.1 el5.cellsOf.2 rfl (by simp) rfl (by omega) (by first | omega | (simp; omega)) fun p30 hp30 => ?_
        have hx : (at_ + (i : Int)).toNat = at_.toNat + i := by omega
        rw [hx] at hp30
        have ho := or_step v ((l.getD (at_.toNat + i) 0).toNat % 128) i hi hv (by omega)
        refine gl_op rfl rfl rfl (op_load hT rfl rfl rfl rfl hp30) ?_
        refine gl_op rfl rfl rfl (op_pure hT rfl) ?_
        refine gl_nil ?_
        refine hK12 _ _ ?_
        clear hK12; try clear K12
        refine gc_seq fun K13 hK13 => ?_
        refine gc_seq fun K14 hK14 => ?_
        refine gc_region ?_
        refine gl_op rfl rfl rfl (op_pure hT rfl) ?_
        refine gl_op rfl rfl rfl (op_pure hT rfl) ?_
        refine gl_op rfl rfl rfl (op_pure hT rfl) ?_
        refine gl_split (t := 34) rfl (fun c34 => ?_) (fun c34 => ?_)
        · try simp only [decide_eq_true_eq, decide_eq_false_iff_not, Bool.not_eq_true', Bool.not_eq_false', Int.not_lt, Int.not_le, Nat.not_lt, Nat.not_le, Bool.true_eq, Bool.false_eq, reduceCtorEq] at c34
          refine gl_un rfl rfl rfl rfl ?_
          refine gl_op rfl rfl rfl (op_pure hT rfl) ?_
          refine gl_un rfl rfl rfl rfl ?_
          refine gl_op rfl rfl rfl (op_pure hT rfl) ?_
          refine gl_op rfl rfl rfl (op_pure hT rfl) ?_
          refine gl_nil ?_
          refine hK14 _ _ ?_
          clear hK14; try clear K14
          refine gc_cond rfl rfl (fun c37 => ?_) (fun c37 => ?_)
          · try simp only [decide_eq_true_eq, decide_eq_false_iff_not, Bool.not_eq_true', Bool.not_eq_false', Int.not_lt, Int.not_le, Nat.not_lt, Nat.not_le, Bool.true_eq, Bool.false_eq, reduceCtorEq] at c37
            refine gc_seq fun K15 hK15 => ?_
            refine gc_region ?_
            refine gl_op rfl rfl rfl (op_pure hT rfl) ?_
            refine gl_op rfl rfl rfl (op_pure hT rfl) ?_
            refine gl_op rfl rfl rfl (op_pure hT rfl) ?_
            refine gl_nil ?_
            refine hK15 _ _ ?_
            clear hK15; try clear K15
            refine gc_ret ?_
            try simp only [x_then_ret, x_block_ret]
            refine gk_ret3 rfl rfl rfl rfl ?_
            obtain rfl : k = 0 := by omega
            exact ⟨by rw [← hg, rdGo_more (by omega) (by omega)]; rfl, Eqv.refl _⟩
          · try simp only [decide_eq_true_eq, decide_eq_false_iff_not, Bool.not_eq_true', Bool.not_eq_false', Int.not_lt, Int.not_le, Nat.not_lt, Nat.not_le, Bool.true_eq, Bool.false_eq, reduceCtorEq] at c37
            refine gc_skip ?_
            refine hK13 _ _ ?_
            clear hK13; try clear K13
            refine gc_seq fun K16 hK16 => ?_
            refine gc_region ?_
            refine gl_op rfl rfl rfl (op_pure hT rfl) ?_
            refine gl_op rfl rfl rfl (op_pure hT rfl) ?_
            refine gl_op rfl rfl rfl (op_pure hT rfl) ?_
            rw [u8_and127]
            refine gl_op rfl rfl rfl (op_pure hT rfl) ?_
            refine gl_spell 41 (v := .int .i64 (((l.getD (at_.toNat + i) 0).toNat % 128 : Nat) : Int)) rfl (by rw [wrap_i64 (by omega)]) ?_
            refine gl_op rfl rfl rfl (op_pure hT rfl) ?_
            first | refine gl_fit hT rfl rfl rfl rfl (by omega) ?_ | refine gl_op rfl rfl rfl (op_pure hT rfl) ?_
            refine gl_op rfl rfl rfl (op_shl rfl rfl rfl (by omega) (by first | omega | (simp [IntKind.bits]; omega))) ?_
            refine gl_op rfl rfl rfl (op_pure hT rfl) ?_
            rw [ho.1]
            refine gl_op rfl rfl rfl (op_pure hT rfl) ?_
            refine gl_nil ?_
            refine hK16 _ _ ?_
            clear hK16; try clear K16
            refine gc_seq fun K17 hK17 => ?_
            refine gc_region ?_
            refine gl_op rfl rfl rfl (op_pure hT rfl) ?_
            refine gl_op rfl rfl rfl (op_pure hT rfl) ?_
            refine gl_nil ?_
            refine hK17 _ _ ?_
            clear hK17; try clear K17
            refine gc_cond rfl rfl (fun c47 => ?_) (fun c47 => ?_)
            · try simp only [decide_eq_true_eq, decide_eq_false_iff_not, Bool.not_eq_true', Bool.not_eq_false', Int.not_lt, Int.not_le, Nat.not_lt, Nat.not_le, Bool.true_eq, Bool.false_eq, reduceCtorEq] at c47
              refine gc_seq fun K18 hK18 => ?_
              refine gc_seq fun K19 hK19 => ?_
              refine gc_region ?_
              refine gl_op rfl rfl rfl (op_pure hT rfl) ?_
              refine gl_op rfl rfl rfl (op_pure hT rfl) ?_
              refine gl_op rfl rfl rfl (op_pure hT rfl) ?_
              refine gl_split (t := 50) rfl (fun c50 => ?_) (fun c50 => ?_)
              · try simp only [decide_eq_true_eq, decide_eq_false_iff_not, Bool.not_eq_true', Bool.not_eq_false', Int.not_lt, Int.not_le, Nat.not_lt, Nat.not_le, Bool.true_eq, Bool.false_eq, reduceCtorEq] at c50
                refine gl_un rfl rfl rfl rfl ?_
                refine gl_op rfl rfl rfl (op_pure hT rfl) ?_
                refine gl_un rfl rfl rfl rfl ?_
                refine gl_op rfl rfl rfl (op_pure hT rfl) ?_
                refine gl_op rfl rfl rfl (op_pure hT rfl) ?_
                refine gl_nil ?_
                refine hK19 _ _ ?_
                clear hK19; try clear K19
                refine gc_cond rfl rfl (fun c53 => ?_) (fun c53 => ?_)
                · try simp only [decide_eq_true_eq, decide_eq_false_iff_not, Bool.not_eq_true', Bool.not_eq_false', Int.not_lt, Int.not_le, Nat.not_lt, Nat.not_le, Bool.true_eq, Bool.false_eq, reduceCtorEq] at c53
                  refine gc_seq fun K20 hK20 => ?_
                  refine gc_region ?_
                  refine gl_op rfl rfl rfl (op_pure hT rfl) ?_
                  refine gl_op rfl rfl rfl (op_pure hT rfl) ?_
                  refine gl_op rfl rfl rfl (op_pure hT rfl) ?_
                  refine gl_nil ?_
                  refine hK20 _ _ ?_
                  clear hK20; try clear K20
                  refine gc_ret ?_
                  try simp only [x_then_ret, x_block_ret]
                  refine gk_ret3 rfl rfl rfl rfl ?_
                  exact ⟨by rw [← hg, rdGo_form (by omega) (by omega) (by omega)], Eqv.refl _⟩
                · try simp only [decide_eq_true_eq, decide_eq_false_iff_not, Bool.not_eq_true', Bool.not_eq_false', Int.not_lt, Int.not_le, Nat.not_lt, Nat.not_le, Bool.true_eq, Bool.false_eq, reduceCtorEq] at c53
                  refine gc_skip ?_
                  refine hK18 _ _ ?_
                  clear hK18; try clear K18
                  refine gc_seq fun K21 hK21 => ?_
                  refine gc_region ?_
                  refine gl_op rfl rfl rfl (op_pure hT rfl) ?_
                  refine gl_op rfl rfl rfl (op_pure hT rfl) ?_
                  refine gl_op rfl rfl rfl (op_pure hT rfl) ?_
                  first | refine gl_fit hT rfl rfl rfl rfl (by omega) ?_ | refine gl_op rfl rfl rfl (op_pure hT rfl) ?_
                  first | refine gl_fit hT rfl rfl rfl rfl (by omega) ?_ | refine gl_op rfl rfl rfl (op_pure hT rfl) ?_
                  refine gl_op rfl rfl rfl (op_pure hT rfl) ?_
                  refine gl_op rfl rfl rfl (op_pure hT rfl) ?_
                  refine gl_op rfl rfl rfl (op_pure hT rfl) ?_
                  refine gl_nil ?_
                  refine hK21 _ _ ?_
                  clear hK21; try clear K21
                  refine gc_ret ?_
                  try simp only [x_then_ret, x_block_ret]
                  refine gk_ret3 rfl rfl rfl rfl ?_
                  omega
              · try simp only [decide_eq_true_eq, decide_eq_false_iff_not, Bool.not_eq_true', Bool.not_eq_false', Int.not_lt, Int.not_le, Nat.not_lt, Nat.not_le, Bool.true_eq, Bool.false_eq, reduceCtorEq] at c50
                refine gl_pass rfl rfl rfl rfl rfl rfl ?_
                refine gl_pass rfl rfl rfl rfl rfl rfl ?_
                refine gl_op rfl rfl rfl (op_pure hT rfl) ?_
                refine gl_nil ?_
                refine hK19 _ _ ?_
                clear hK19; try clear K19
                refine gc_cond_f rfl ?_
                refine gc_skip ?_
                refine hK18 _ _ ?_
                clear hK18; try clear K18
                refine gc_seq fun K22 hK22 => ?_
                refine gc_region ?_
                refine gl_op rfl rfl rfl (op_pure hT rfl) ?_
                refine gl_op rfl rfl rfl (op_pure hT rfl) ?_
                refine gl_op rfl rfl rfl (op_pure hT rfl) ?_
                first | refine gl_fit hT rfl rfl rfl rfl (by omega) ?_ | refine gl_op rfl rfl rfl (op_pure hT rfl) ?_
                first | refine gl_fit hT rfl rfl rfl rfl (by omega) ?_ | refine gl_op rfl rfl rfl (op_pure hT rfl) ?_
                refine gl_op rfl rfl rfl (op_pure hT rfl) ?_
                refine gl_op rfl rfl rfl (op_pure hT rfl) ?_
                refine gl_op rfl rfl rfl (op_pure hT rfl) ?_
                refine gl_nil ?_
                refine hK22 _ _ ?_
                clear hK22; try clear K22
                refine gc_ret ?_
                try simp only [x_then_ret, x_block_ret]
                refine gk_ret3 rfl rfl rfl rfl ?_
                exact ⟨by rw [← hg, rdGo_end (by omega) (by omega) (by omega)]; simp; omega, Eqv.refl _⟩
            · try simp only [decide_eq_true_eq, decide_eq_false_iff_not, Bool.not_eq_true', Bool.not_eq_false', Int.not_lt, Int.not_le, Nat.not_lt, Nat.not_le, Bool.true_eq, Bool.false_eq, reduceCtorEq] at c47
              refine gc_skip ?_
              refine hK8 _ _ ?_
              clear hK8; try clear K8
              refine gc_region ?_
              refine gl_op rfl rfl rfl (op_pure hT rfl) ?_
              first | refine gl_fit hT rfl rfl rfl rfl (by omega) ?_ | refine gl_op rfl rfl rfl (op_pure hT rfl) ?_
              refine gl_op rfl rfl rfl (op_pure hT rfl) ?_
              refine gl_nil ?_
              intro a ha
              refine ⟨i + 1, _, ha.sub ⟨rfl, rfl, rfl, rfl, trivial⟩, by omega, by omega, ho.2, ?_, rfl⟩
              rw [← hg, rdGo_more (by omega) (by omega)]
        · try simp only [decide_eq_true_eq, decide_eq_false_iff_not, Bool.not_eq_true', Bool.not_eq_false', Int.not_lt, Int.not_le, Nat.not_lt, Nat.not_le, Bool.true_eq, Bool.false_eq, reduceCtorEq] at c34
          refine gl_pass rfl rfl rfl rfl rfl rfl ?_
          refine gl_pass rfl rfl rfl rfl rfl rfl ?_
          refine gl_op rfl rfl rfl (op_pure hT rfl) ?_
          refine gl_nil ?_
          refine hK14 _ _ ?_
          clear hK14; try clear K14
          refine gc_cond_f rfl ?_
          refine gc_skip ?_
          refine hK13 _ _ ?_
          clear hK13; try clear K13
          refine gc_seq fun K23 hK23 => ?_
          refine gc_region ?_
          refine gl_op rfl rfl rfl (op_pure hT rfl) ?_
          refine gl_op rfl rfl rfl (op_pure hT rfl) ?_
          refine gl_op rfl rfl rfl (op_pure hT rfl) ?_
          rw [u8_and127]
          refine gl_op rfl rfl rfl (op_pure hT rfl) ?_
          refine gl_spell 41 (v := .int .i64 (((l.getD (at_.toNat + i) 0).toNat % 128 : Nat) : Int)) rfl (by rw [wrap_i64 (by omega)]) ?_
          refine gl_op rfl rfl rfl (op_pure hT rfl) ?_
          first | refine gl_fit hT rfl rfl rfl rfl (by omega) ?_ | refine gl_op rfl rfl rfl (op_pure hT rfl) ?_
          refine gl_op rfl rfl rfl (op_shl rfl rfl rfl (by omega) (by first | omega | (simp [IntKind.bits]; omega))) ?_
          refine gl_op rfl rfl rfl (op_pure hT rfl) ?_
          rw [ho.1]
          refine gl_op rfl rfl rfl (op_pure hT rfl) ?_
          refine gl_nil ?_
          refine hK23 _ _ ?_
          clear hK23; try clear K23
          refine gc_seq fun K24 hK24 => ?_
          refine gc_region ?_
          refine gl_op rfl rfl rfl (op_pure hT rfl) ?_
          refine gl_op rfl rfl rfl (op_pure hT rfl) ?_
          refine gl_nil ?_
          refine hK24 _ _ ?_
          clear hK24; try clear K24
          refine gc_cond rfl rfl (fun c47 => ?_) (fun c47 => ?_)
          · try simp only [decide_eq_true_eq, decide_eq_false_iff_not, Bool.not_eq_true', Bool.not_eq_false', Int.not_lt, Int.not_le, Nat.not_lt, Nat.not_le, Bool.true_eq, Bool.false_eq, reduceCtorEq] at c47
            refine gc_seq fun K25 hK25 => ?_
            refine gc_seq fun K26 hK26 => ?_
            refine gc_region ?_
            refine gl_op rfl rfl rfl (op_pure hT rfl) ?_
            refine gl_op rfl rfl rfl (op_pure hT rfl) ?_
            refine gl_op rfl rfl rfl (op_pure hT rfl) ?_
            refine gl_split (t := 50) rfl (fun c50 => ?_) (fun c50 => ?_)
            · try simp only [decide_eq_true_eq, decide_eq_false_iff_not, Bool.not_eq_true', Bool.not_eq_false', Int.not_lt, Int.not_le, Nat.not_lt, Nat.not_le, Bool.true_eq, Bool.false_eq, reduceCtorEq] at c50
              refine gl_un rfl rfl rfl rfl ?_
              refine gl_op rfl rfl rfl (op_pure hT rfl) ?_
              refine gl_un rfl rfl rfl rfl ?_
              refine gl_op rfl rfl rfl (op_pure hT rfl) ?_
              refine gl_op rfl rfl rfl (op_pure hT rfl) ?_
              refine gl_nil ?_
              refine hK26 _ _ ?_
              clear hK26; try clear K26
              refine gc_cond rfl rfl (fun c53 => ?_) (fun c53 => ?_)
              · try simp only [decide_eq_true_eq, decide_eq_false_iff_not, Bool.not_eq_true', Bool.not_eq_false', Int.not_lt, Int.not_le, Nat.not_lt, Nat.not_le, Bool.true_eq, Bool.false_eq, reduceCtorEq] at c53
                refine gc_seq fun K27 hK27 => ?_
                refine gc_region ?_
                refine gl_op rfl rfl rfl (op_pure hT rfl) ?_
                refine gl_op rfl rfl rfl (op_pure hT rfl) ?_
                refine gl_op rfl rfl rfl (op_pure hT rfl) ?_
                refine gl_nil ?_
                refine hK27 _ _ ?_
                clear hK27; try clear K27
                refine gc_ret ?_
                try simp only [x_then_ret, x_block_ret]
                refine gk_ret3 rfl rfl rfl rfl ?_
                exact ⟨by rw [← hg, rdGo_form (by omega) (by omega) (by omega)], Eqv.refl _⟩
              · try simp only [decide_eq_true_eq, decide_eq_false_iff_not, Bool.not_eq_true', Bool.not_eq_false', Int.not_lt, Int.not_le, Nat.not_lt, Nat.not_le, Bool.true_eq, Bool.false_eq, reduceCtorEq] at c53
                refine gc_skip ?_
                refine hK25 _ _ ?_
                clear hK25; try clear K25
                refine gc_seq fun K28 hK28 => ?_
                refine gc_region ?_
                refine gl_op rfl rfl rfl (op_pure hT rfl) ?_
                refine gl_op rfl rfl rfl (op_pure hT rfl) ?_
                refine gl_op rfl rfl rfl (op_pure hT rfl) ?_
                first | refine gl_fit hT rfl rfl rfl rfl (by omega) ?_ | refine gl_op rfl rfl rfl (op_pure hT rfl) ?_
                first | refine gl_fit hT rfl rfl rfl rfl (by omega) ?_ | refine gl_op rfl rfl rfl (op_pure hT rfl) ?_
                refine gl_op rfl rfl rfl (op_pure hT rfl) ?_
                refine gl_op rfl rfl rfl (op_pure hT rfl) ?_
                refine gl_op rfl rfl rfl (op_pure hT rfl) ?_
                refine gl_nil ?_
                refine hK28 _ _ ?_
                clear hK28; try clear K28
                refine gc_ret ?_
                try simp only [x_then_ret, x_block_ret]
                refine gk_ret3 rfl rfl rfl rfl ?_
                exact ⟨by rw [← hg, rdGo_end (by omega) (by omega) (by omega)]; simp; omega, Eqv.refl _⟩
            · try simp only [decide_eq_true_eq, decide_eq_false_iff_not, Bool.not_eq_true', Bool.not_eq_false', Int.not_lt, Int.not_le, Nat.not_lt, Nat.not_le, Bool.true_eq, Bool.false_eq, reduceCtorEq] at c50
              refine gl_pass rfl rfl rfl rfl rfl rfl ?_
              refine gl_pass rfl rfl rfl rfl rfl rfl ?_
              refine gl_op rfl rfl rfl (op_pure hT rfl) ?_
              refine gl_nil ?_
              refine hK26 _ _ ?_
              clear hK26; try clear K26
              refine gc_cond_f rfl ?_
              refine gc_skip ?_
              refine hK25 _ _ ?_
              clear hK25; try clear K25
              refine gc_seq fun K29 hK29 => ?_
              refine gc_region ?_
              refine gl_op rfl rfl rfl (op_pure hT rfl) ?_
              refine gl_op rfl rfl rfl (op_pure hT rfl) ?_
              refine gl_op rfl rfl rfl (op_pure hT rfl) ?_
              first | refine gl_fit hT rfl rfl rfl rfl (by omega) ?_ | refine gl_op rfl rfl rfl (op_pure hT rfl) ?_
              first | refine gl_fit hT rfl rfl rfl rfl (by omega) ?_ | refine gl_op rfl rfl rfl (op_pure hT rfl) ?_
              refine gl_op rfl rfl rfl (op_pure hT rfl) ?_
              refine gl_op rfl rfl rfl (op_pure hT rfl) ?_
              refine gl_op rfl rfl rfl (op_pure hT rfl) ?_
              refine gl_nil ?_
              refine hK29 _ _ ?_
              clear hK29; try clear K29
              refine gc_ret ?_
              try simp only [x_then_ret, x_block_ret]
              refine gk_ret3 rfl rfl rfl rfl ?_
              exact ⟨by rw [← hg, rdGo_end (by omega) (by omega) (by omega)]; simp; omega, Eqv.refl _⟩
          · try simp only [decide_eq_true_eq, decide_eq_false_iff_not, Bool.not_eq_true', Bool.not_eq_false', Int.not_lt, Int.not_le, Nat.not_lt, Nat.not_le, Bool.true_eq, Bool.false_eq, reduceCtorEq] at c47
            refine gc_skip ?_
            refine hK8 _ _ ?_
            clear hK8; try clear K8
            refine gc_region ?_
            refine gl_op rfl rfl rfl (op_pure hT rfl) ?_
            first | refine gl_fit hT rfl rfl rfl rfl (by omega) ?_ | refine gl_op rfl rfl rfl (op_pure hT rfl) ?_
            refine gl_op rfl rfl rfl (op_pure hT rfl) ?_
            refine gl_nil ?_
            intro a ha
            refine ⟨i + 1, _, ha.sub ⟨rfl, rfl, rfl, rfl, trivial⟩, by omega, by omega, ho.2, ?_, rfl⟩
            rw [← hg, rdGo_more (by omega) (by omega)]
theorem unit_le (i : Nat) (hi : i ≤ 8) : 128 ^ i ≤ 72057594037927936 ∧ 0 < 128 ^ i := by
  have := pow128_le hi
  have h8 : (128 : Nat) ^ 8 = 72057594037927936 := by decide
  exact ⟨by omega, Nat.pow_pos (by decide)⟩
theorem unit_fit {i : Nat} (hi : i ≤ 8) (h8 : ¬ (i : Int) = 8) : -9223372036854775808 ≤ ((128 ^ (i + 1) : Nat) : Int) ∧ ((128 ^ (i + 1) : Nat) : Int) ≤ 9223372036854775807 := by
  have h9 : 128 ^ (i + 1) ≤ 128 ^ 8 := pow128_le (by omega)
  have h12 : (128 : Nat) ^ 8 = 72057594037927936 := by decide
  generalize 128 ^ (i + 1) = z at h9
  omega
theorem rReadUint_calls (A : Option Addr) (c : Nat) (l : List UInt8) (at_ : Int) (w : World) {ok : Nat → Prop} (h1 : RdE w ok uB A l) (hb : l.length ≤ 4611686018427387904) :
    Calls Tryd.prog 83 ⟨[.slice A l.length c, .int .i64 at_]⟩ w fun e w' => e = .returned (.tuple #[.int .i64 (readUV l at_).1, .int .i64 (readUV l at_).2.1, .int .i64 (readUV l at_).2.2]) ∧ Eqv w w' := by
  refine gc_enter (N := 58) Tryd.func83 rfl rfl rfl [(0, _), (1, _)] rfl ?_
  refine gc_seq fun K1 hK1 => ?_
  refine gc_region ?_
  refine gl_op rfl rfl rfl (op_pure hT rfl) ?_
  refine gl_op rfl rfl rfl (op_pure hT rfl) ?_
  refine gl_op rfl rfl rfl (op_pure hT rfl) ?_
  refine gl_nil ?_
  refine hK1 _ _ ?_
  clear hK1; try clear K1
  refine gc_seq fun K2 hK2 => ?_
  refine gc_seq fun K3 hK3 => ?_
  refine gc_region ?_
  refine gl_op rfl rfl rfl (op_pure hT rfl) ?_
  refine gl_op rfl rfl rfl (op_pure hT rfl) ?_
  refine gl_callf rfl rfl rfl rfl Tryd.func93 rfl rfl rfl (outside_calls A c l at_ _) ?_
  rintro _ _ ⟨rfl, n13, rfl⟩
  refine ⟨_, rfl, ?_⟩
  refine gl_nil ?_
  refine hK3 _ _ ?_
  clear hK3; try clear K3
  refine gc_cond rfl rfl (fun c13 => ?_) (fun c13 => ?_)
  · try simp only [decide_eq_true_eq, decide_eq_false_iff_not, Bool.not_eq_true', Bool.not_eq_false', Int.not_lt, Int.not_le, Nat.not_lt, Nat.not_le, Bool.true_eq, Bool.false_eq, reduceCtorEq] at c13
    refine gc_seq fun K4 hK4 => ?_
    refine gc_region ?_
    refine gl_op rfl rfl rfl (op_pure hT rfl) ?_
    refine gl_op rfl rfl rfl (op_pure hT rfl) ?_
    refine gl_op rfl rfl rfl (op_pure hT rfl) ?_
    refine gl_nil ?_
    refine hK4 _ _ ?_
    clear hK4; try clear K4
    refine gc_ret ?_
    try simp only [x_then_ret, x_block_ret]
    refine gk_ret3 rfl rfl rfl rfl ?_
    exact ⟨by rw [readUV, if_pos c13], ⟨_, rfl⟩⟩
  · try simp only [decide_eq_true_eq, decide_eq_false_iff_not, Bool.not_eq_true', Bool.not_eq_false', Int.not_lt, Int.not_le, Nat.not_lt, Nat.not_le, Bool.true_eq, Bool.false_eq, reduceCtorEq] at c13
    refine gc_skip ?_
    refine hK2 _ _ ?_
    clear hK2; try clear K2
    refine gc_seq fun K5 hK5 => ?_
    refine gc_region ?_
    refine gl_op rfl rfl rfl (op_pure hT rfl) ?_
    refine gl_nil ?_
    refine hK5 _ _ ?_
    clear hK5; try clear K5
    refine gc_seq fun K6 hK6 => ?_
    refine gc_region ?_
    refine gl_op rfl rfl rfl (op_pure hT rfl) ?_
    refine gl_nil ?_
    refine hK6 _ _ ?_
    clear hK6; try clear K6
    refine gc_seq fun K7 hK7 => ?_
    refine gc_seq fun K8 hK8 => ?_
    refine gc_region ?_
    refine gl_op rfl rfl rfl (op_pure hT rfl) ?_
    refine gl_nil ?_
    refine hK8 _ _ ?_
    clear hK8; try clear K8
    refine gc_block ?_
    have hat : (at_.toNat : Int) = at_ := Int.toNat_of_nonneg (by omega)
    have hR : readUV l at_ = rdGo l at_.toNat 9 0 0 := by rw [readUV, if_neg (by omega)]
    refine gc_loop (fun k a w' => ∃ i v : Nat, Fr 58 a [(0, .slice A l.length c), (1, .int .i64 at_), (7, .int .i64 v), (8, .int .i64 ((128 ^ i : Nat) : Int)), (9, .int .i64 i)] ∧ i ≤ 8 ∧ k = 9 - i ∧ v < 128 ^ i ∧ rdGo l at_.toNat k i v = readUV l at_ ∧ Eqv w w') 9 ?_ ?_ ?_
    · intro a ha; exact ⟨0, 0, ha.sub ⟨rfl, rfl, rfl, rfl, rfl, trivial⟩, by omega, rfl, by decide, hR.symm, ⟨_, rfl⟩⟩
    · rintro a w ⟨i, v, _, h1, h2, _⟩; omega
    rintro k a _ ⟨i, v, hF, hi, hk, hv, hg, n, rfl⟩
    refine gc_of hF ?_
    have hu := unit_le i hi
    refine gc_seq fun K9 hK9 => ?_
    refine gc_seq fun K10 hK10 => ?_
    refine gc_region ?_
    refine gl_op rfl rfl rfl (op_pure hT rfl) ?_
    refine gl_op rfl rfl rfl (op_pure hT rfl) ?_
    refine gl_nil ?_
    refine hK10 _ _ ?_
    clear hK10; try clear K10
    refine gc_cond rfl rfl (fun c15 => ?_) (fun c15 => ?_)
    · try simp only [decide_eq_true_eq, decide_eq_false_iff_not, Bool.not_eq_true', Bool.not_eq_false', Int.not_lt, Int.not_le, Nat.not_lt, Nat.not_le, Bool.true_eq, Bool.false_eq, reduceCtorEq] at c15
      refine gc_skip ?_
      refine hK9 _ _ ?_
      clear hK9; try clear K9
      refine gc_seq fun K11 hK11 => ?_
      refine gc_block ?_
      refine gc_seq fun K12 hK12 => ?_
      refine gc_seq fun K13 hK13 => ?_
      refine gc_region ?_
      refine gl_op rfl rfl rfl (op_pure hT rfl) ?_
      refine gl_op rfl rfl rfl (op_pure hT rfl) ?_
      first | refine gl_fit hT rfl rfl rfl rfl (by omega) ?_ | refine gl_op rfl rfl rfl (op_pure hT rfl) ?_
      refine gl_op rfl rfl rfl (op_pure hT rfl) ?_
      refine gl_op rfl rfl rfl (op_pure hT rfl) ?_
      refine gl_op rfl rfl rfl (op_pure hT rfl) ?_
      refine gl_nil ?_
      refine hK13 _ _ ?_
      clear hK13; try clear K13
      refine gc_cond rfl rfl (fun c23 => ?_) (fun c23 => ?_)
      · try simp only [decide_eq_true_eq, decide_eq_false_iff_not, Bool.not_eq_true', Bool.not_eq_false', Int.not_lt, Int.not_le, Nat.not_lt, Nat.not_le, Bool.true_eq, Bool.false_eq, reduceCtorEq] at c23
        refine gc_seq fun K14 hK14 => ?_
        refine gc_region ?_
        refine gl_op rfl rfl rfl (op_pure hT rfl) ?_
        refine gl_op rfl rfl rfl (op_pure hT rfl) ?_
        refine gl_op rfl rfl rfl (op_pure hT rfl) ?_
        refine gl_nil ?_
        refine hK14 _ _ ?_
        clear hK14; try clear K14
        refine gc_ret ?_
        try simp only [x_then_ret, x_block_ret]
        refine gk_ret3 rfl rfl rfl rfl ?_
        exact ⟨by rw [← hg, rdGo_short (by omega)], ⟨_, rfl⟩⟩
      · try simp only [decide_eq_true_eq, decide_eq_false_iff_not, Bool.not_eq_true', Bool.not_eq_false', Int.not_lt, Int.not_le, Nat.not_lt, Nat.not_le, Bool.true_eq, Bool.false_eq, reduceCtorEq] at c23
        refine gc_skip ?_
        refine hK12 _ _ ?_
        clear hK12; try clear K12
        refine gc_seq fun K15 hK15 => ?_
        refine gc_region ?_
        refine gl_op rfl rfl rfl (op_pure hT rfl) ?_
        refine gl_op rfl rfl rfl (op_pure hT rfl) ?_
        refine gl_op rfl rfl rfl (op_pure hT rfl) ?_
        first | refine gl_fit hT rfl rfl rfl rfl (by omega) ?_ | refine gl_op rfl rfl rfl (op_pure hT rfl) ?_
        refine gl_ix (0 : UInt8) hT h1 rfl rfl rfl rfl rfl el5.cellsOf.1 el5.cellsOf.2 rfl (by simp) rfl (by omega) (by first | omega | (simp; omega)) fun p28 hp28 => ?_
        have hx : (at_ + (i : Int)).toNat = at_.toNat + i := by omega
        rw [hx] at hp28
        have ho := or_step v ((l.getD (at_.toNat + i) 0).toNat % 128) i hi hv (by omega)
        have hm : ((128 ^ i : Nat) : Int) * (((l.getD (at_.toNat + i) 0).toNat : Int) % 128) = (((l.getD (at_.toNat + i) 0).toNat % 128 * 128 ^ i : Nat) : Int) := by push_cast; rw [Int.mul_comm]
        have hs := ho.2
        have h9 : 128 ^ (i + 1) ≤ 128 ^ 9 := pow128_le (by omega)
        have h12 : (128 : Nat) ^ 9 = 9223372036854775808 := by decide
        refine gl_op rfl rfl rfl (op_load hT rfl rfl rfl rfl hp28) ?_
        refine gl_op rfl rfl rfl (op_pure hT rfl) ?_
        refine gl_spell 30 (v := .int .i64 ((l.getD (at_.toNat + i) 0).toNat : Int)) rfl (by rw [wrap_i64 (by have := u8_range (l.getD (at_.toNat + i) 0); omega)]) ?_
        refine gl_op rfl rfl rfl (op_pure hT rfl) ?_
        refine gl_nil ?_
        refine hK15 _ _ ?_
        clear hK15; try clear K15
        refine gc_seq fun K16 hK16 => ?_
        refine gc_seq fun K17 hK17 => ?_
        refine gc_region ?_
        refine gl_op rfl rfl rfl (op_pure hT rfl) ?_
        refine gl_op rfl rfl rfl (op_pure hT rfl) ?_
        refine gl_op rfl rfl rfl (op_pure hT rfl) ?_
        refine gl_split (t := 33) rfl (fun c33 => ?_) (fun c33 => ?_)
        · try simp only [decide_eq_true_eq, decide_eq_false_iff_not, Bool.not_eq_true', Bool.not_eq_false', Int.not_lt, Int.not_le, Nat.not_lt, Nat.not_le, Bool.true_eq, Bool.false_eq, reduceCtorEq] at c33
          refine gl_un rfl rfl rfl rfl ?_
          refine gl_op rfl rfl rfl (op_pure hT rfl) ?_
          refine gl_un rfl rfl rfl rfl ?_
          refine gl_op rfl rfl rfl (op_pure hT rfl) ?_
          refine gl_op rfl rfl rfl (op_pure hT rfl) ?_
          refine gl_nil ?_
          refine hK17 _ _ ?_
          clear hK17; try clear K17
          refine gc_cond rfl rfl (fun c36 => ?_) (fun c36 => ?_)
          · try simp only [decide_eq_true_eq, decide_eq_false_iff_not, Bool.not_eq_true', Bool.not_eq_false', Int.not_lt, Int.not_le, Nat.not_lt, Nat.not_le, Bool.true_eq, Bool.false_eq, reduceCtorEq] at c36
            refine gc_seq fun K18 hK18 => ?_
            refine gc_region ?_
            refine gl_op rfl rfl rfl (op_pure hT rfl) ?_
            refine gl_op rfl rfl rfl (op_pure hT rfl) ?_
            refine gl_op rfl rfl rfl (op_pure hT rfl) ?_
            refine gl_nil ?_
            refine hK18 _ _ ?_
            clear hK18; try clear K18
            refine gc_ret ?_
            try simp only [x_then_ret, x_block_ret]
            refine gk_ret3 rfl rfl rfl rfl ?_
            obtain rfl : k = 0 := by omega
            exact ⟨by rw [← hg, rdGo_more (by omega) (by omega)]; rfl, ⟨_, rfl⟩⟩
          · try simp only [decide_eq_true_eq, decide_eq_false_iff_not, Bool.not_eq_true', Bool.not_eq_false', Int.not_lt, Int.not_le, Nat.not_lt, Nat.not_le, Bool.true_eq, Bool.false_eq, reduceCtorEq] at c36
            refine gc_skip ?_
            refine hK16 _ _ ?_
            clear hK16; try clear K16
            refine gc_seq fun K19 hK19 => ?_
            refine gc_region ?_
            refine gl_op rfl rfl rfl (op_pure hT rfl) ?_
            refine gl_op rfl rfl rfl (op_pure hT rfl) ?_
            refine gl_op rfl rfl rfl (op_pure hT rfl) ?_
            refine gl_op rfl rfl rfl (op_rem hT rfl (by omega)) ?_
            refine gl_op rfl rfl rfl (op_pure hT rfl) ?_
            refine gl_spell 41 (v := .int .i64 (((l.getD (at_.toNat + i) 0).toNat % 128 * 128 ^ i : Nat) : Int)) rfl (by rw [hm, wrap_i64 (by omega)]) ?_
            refine gl_op rfl rfl rfl (op_pure hT rfl) ?_
            refine gl_spell 42 (v := .int .i64 ((v + (l.getD (at_.toNat + i) 0).toNat % 128 * 128 ^ i : Nat) : Int)) rfl (by rw [wrap_i64 (by omega)]; push_cast; rfl) ?_
            refine gl_op rfl rfl rfl (op_pure hT rfl) ?_
            refine gl_nil ?_
            refine hK19 _ _ ?_
            clear hK19; try clear K19
            refine gc_seq fun K20 hK20 => ?_
            refine gc_seq fun K21 hK21 => ?_
            refine gc_region ?_
            refine gl_op rfl rfl rfl (op_pure hT rfl) ?_
            refine gl_op rfl rfl rfl (op_pure hT rfl) ?_
            refine gl_nil ?_
            refine hK21 _ _ ?_
            clear hK21; try clear K21
            refine gc_cond rfl rfl (fun c44 => ?_) (fun c44 => ?_)
            · try simp only [decide_eq_true_eq, decide_eq_false_iff_not, Bool.not_eq_true', Bool.not_eq_false', Int.not_lt, Int.not_le, Nat.not_lt, Nat.not_le, Bool.true_eq, Bool.false_eq, reduceCtorEq] at c44
              refine gc_seq fun K22 hK22 => ?_
              refine gc_seq fun K23 hK23 => ?_
              refine gc_region ?_
              refine gl_op rfl rfl rfl (op_pure hT rfl) ?_
              refine gl_op rfl rfl rfl (op_pure hT rfl) ?_
              refine gl_op rfl rfl rfl (op_pure hT rfl) ?_
              refine gl_split (t := 47) rfl (fun c47 => ?_) (fun c47 => ?_)
              · try simp only [decide_eq_true_eq, decide_eq_false_iff_not, Bool.not_eq_true', Bool.not_eq_false', Int.not_lt, Int.not_le, Nat.not_lt, Nat.not_le, Bool.true_eq, Bool.false_eq, reduceCtorEq] at c47
                refine gl_un rfl rfl rfl rfl ?_
                refine gl_op rfl rfl rfl (op_pure hT rfl) ?_
                refine gl_un rfl rfl rfl rfl ?_
                refine gl_op rfl rfl rfl (op_pure hT rfl) ?_
                refine gl_op rfl rfl rfl (op_pure hT rfl) ?_
                refine gl_nil ?_
                refine hK23 _ _ ?_
                clear hK23; try clear K23
                refine gc_cond rfl rfl (fun c50 => ?_) (fun c50 => ?_)
                · try simp only [decide_eq_true_eq, decide_eq_false_iff_not, Bool.not_eq_true', Bool.not_eq_false', Int.not_lt, Int.not_le, Nat.not_lt, Nat.not_le, Bool.true_eq, Bool.false_eq, reduceCtorEq] at c50
                  refine gc_seq fun K24 hK24 => ?_
                  refine gc_region ?_
                  refine gl_op rfl rfl rfl (op_pure hT rfl) ?_
                  refine gl_op rfl rfl rfl (op_pure hT rfl) ?_
                  refine gl_op rfl rfl rfl (op_pure hT rfl) ?_
                  refine gl_nil ?_
                  refine hK24 _ _ ?_
                  clear hK24; try clear K24
                  refine gc_ret ?_
                  try simp only [x_then_ret, x_block_ret]
                  refine gk_ret3 rfl rfl rfl rfl ?_
                  first
                    | (exfalso; omega)
                    | exact ⟨by rw [← hg, rdGo_form (by omega) (by omega) (by omega)], ⟨_, rfl⟩⟩
                    | exact ⟨by rw [← hg, rdGo_end (by omega) (by omega) (by omega)]; simp; omega, ⟨_, rfl⟩⟩
                · try simp only [decide_eq_true_eq, decide_eq_false_iff_not, Bool.not_eq_true', Bool.not_eq_false', Int.not_lt, Int.not_le, Nat.not_lt, Nat.not_le, Bool.true_eq, Bool.false_eq, reduceCtorEq] at c50
                  refine gc_skip ?_
                  refine hK22 _ _ ?_
                  clear hK22; try clear K22
                  refine gc_seq fun K25 hK25 => ?_
                  refine gc_region ?_
                  refine gl_op rfl rfl rfl (op_pure hT rfl) ?_
                  refine gl_op rfl rfl rfl (op_pure hT rfl) ?_
                  refine gl_op rfl rfl rfl (op_pure hT rfl) ?_
                  first | refine gl_fit hT rfl rfl rfl rfl (by omega) ?_ | refine gl_op rfl rfl rfl (op_pure hT rfl) ?_
                  first | refine gl_fit hT rfl rfl rfl rfl (by omega) ?_ | refine gl_op rfl rfl rfl (op_pure hT rfl) ?_
                  refine gl_op rfl rfl rfl (op_pure hT rfl) ?_
                  refine gl_op rfl rfl rfl (op_pure hT rfl) ?_
                  refine gl_op rfl rfl rfl (op_pure hT rfl) ?_
                  refine gl_nil ?_
                  refine hK25 _ _ ?_
                  clear hK25; try clear K25
                  refine gc_ret ?_
                  try simp only [x_then_ret, x_block_ret]
                  refine gk_ret3 rfl rfl rfl rfl ?_
                  first
                    | (exfalso; omega)
                    | exact ⟨by rw [← hg, rdGo_form (by omega) (by omega) (by omega)], ⟨_, rfl⟩⟩
                    | exact ⟨by rw [← hg, rdGo_end (by omega) (by omega) (by omega)]; simp; omega, ⟨_, rfl⟩⟩
              · try simp only [decide_eq_true_eq, decide_eq_false_iff_not, Bool.not_eq_true', Bool.not_eq_false', Int.not_lt, Int.not_le, Nat.not_lt, Nat.not_le, Bool.true_eq, Bool.false_eq, reduceCtorEq] at c47
                refine gl_pass rfl rfl rfl rfl rfl rfl ?_
                refine gl_pass rfl rfl rfl rfl rfl rfl ?_
                refine gl_op rfl rfl rfl (op_pure hT rfl) ?_
                refine gl_nil ?_
                refine hK23 _ _ ?_
                clear hK23; try clear K23
                refine gc_cond_f rfl ?_
                refine gc_skip ?_
                refine hK22 _ _ ?_
                clear hK22; try clear K22
                refine gc_seq fun K26 hK26 => ?_
                refine gc_region ?_
                refine gl_op rfl rfl rfl (op_pure hT rfl) ?_
                refine gl_op rfl rfl rfl (op_pure hT rfl) ?_
                refine gl_op rfl rfl rfl (op_pure hT rfl) ?_
                first | refine gl_fit hT rfl rfl rfl rfl (by omega) ?_ | refine gl_op rfl rfl rfl (op_pure hT rfl) ?_
                first | refine gl_fit hT rfl rfl rfl rfl (by omega) ?_ | refine gl_op rfl rfl rfl (op_pure hT rfl) ?_
                refine gl_op rfl rfl rfl (op_pure hT rfl) ?_
                refine gl_op rfl rfl rfl (op_pure hT rfl) ?_
                refine gl_op rfl rfl rfl (op_pure hT rfl) ?_
                refine gl_nil ?_
                refine hK26 _ _ ?_
                clear hK26; try clear K26
                refine gc_ret ?_
                try simp only [x_then_ret, x_block_ret]
                refine gk_ret3 rfl rfl rfl rfl ?_
                first
                  | (exfalso; omega)
                  | exact ⟨by rw [← hg, rdGo_form (by omega) (by omega) (by omega)], ⟨_, rfl⟩⟩
                  | exact ⟨by rw [← hg, rdGo_end (by omega) (by omega) (by omega)]; simp; omega, ⟨_, rfl⟩⟩
            · try simp only [decide_eq_true_eq, decide_eq_false_iff_not, Bool.not_eq_true', Bool.not_eq_false', Int.not_lt, Int.not_le, Nat.not_lt, Nat.not_le, Bool.true_eq, Bool.false_eq, reduceCtorEq] at c44
              refine gc_skip ?_
              refine hK20 _ _ ?_
              clear hK20; try clear K20
              refine gc_region ?_
              refine gl_op rfl rfl rfl (op_pure hT rfl) ?_
              have hm8 : ((128 ^ i : Nat) : Int) * 128 = ((128 ^ (i + 1) : Nat) : Int) := by push_cast; rw [Int.pow_succ]
              refine gl_op rfl rfl rfl (op_pure hT rfl) ?_
              refine gl_spell 57 (v := .int .i64 ((128 ^ (i + 1) : Nat) : Int)) rfl (by rw [hm8, wrap_i64 (unit_fit hi (by omega))]) ?_
              refine gl_op rfl rfl rfl (op_pure hT rfl) ?_
              refine gl_nil ?_
              refine hK11 _ _ ?_
              clear hK11; try clear K11
              refine gc_region ?_
              refine gl_op rfl rfl rfl (op_pure hT rfl) ?_
              first | refine gl_fit hT rfl rfl rfl rfl (by omega) ?_ | refine gl_op rfl rfl rfl (op_pure hT rfl) ?_
              refine gl_op rfl rfl rfl (op_pure hT rfl) ?_
              refine gl_nil ?_
              intro a ha
              refine ⟨i + 1, _, ha.sub ⟨rfl, rfl, rfl, rfl, rfl, trivial⟩, by omega, by omega, hs, ?_, ⟨_, rfl⟩⟩
              rw [← hg, rdGo_more (by omega) (by omega)]
        · try simp only [decide_eq_true_eq, decide_eq_false_iff_not, Bool.not_eq_true', Bool.not_eq_false', Int.not_lt, Int.not_le, Nat.not_lt, Nat.not_le, Bool.true_eq, Bool.false_eq, reduceCtorEq] at c33
          refine gl_pass rfl rfl rfl rfl rfl rfl ?_
          refine gl_pass rfl rfl rfl rfl rfl rfl ?_
          refine gl_op rfl rfl rfl (op_pure hT rfl) ?_
          refine gl_nil ?_
          refine hK17 _ _ ?_
          clear hK17; try clear K17
          refine gc_cond_f rfl ?_
          refine gc_skip ?_
          refine hK16 _ _ ?_
          clear hK16; try clear K16
          refine gc_seq fun K27 hK27 => ?_
          refine gc_region ?_
          refine gl_op rfl rfl rfl (op_pure hT rfl) ?_
          refine gl_op rfl rfl rfl (op_pure hT rfl) ?_
          refine gl_op rfl rfl rfl (op_pure hT rfl) ?_
          refine gl_op rfl rfl rfl (op_rem hT rfl (by omega)) ?_
          refine gl_op rfl rfl rfl (op_pure hT rfl) ?_
          refine gl_spell 41 (v := .int .i64 (((l.getD (at_.toNat + i) 0).toNat % 128 * 128 ^ i : Nat) : Int)) rfl (by rw [hm, wrap_i64 (by omega)]) ?_
          refine gl_op rfl rfl rfl (op_pure hT rfl) ?_
          refine gl_spell 42 (v := .int .i64 ((v + (l.getD (at_.toNat + i) 0).toNat % 128 * 128 ^ i : Nat) : Int)) rfl (by rw [wrap_i64 (by omega)]; push_cast; rfl) ?_
          refine gl_op rfl rfl rfl (op_pure hT rfl) ?_
          refine gl_nil ?_
          refine hK27 _ _ ?_
          clear hK27; try clear K27
          refine gc_seq fun K28 hK28 => ?_
          refine gc_seq fun K29 hK29 => ?_
          refine gc_region ?_
          refine gl_op rfl rfl rfl (op_pure hT rfl) ?_
          refine gl_op rfl rfl rfl (op_pure hT rfl) ?_
          refine gl_nil ?_
          refine hK29 _ _ ?_
          clear hK29; try clear K29
          refine gc_cond rfl rfl (fun c44 => ?_) (fun c44 => ?_)
          · try simp only [decide_eq_true_eq, decide_eq_false_iff_not, Bool.not_eq_true', Bool.not_eq_false', Int.not_lt, Int.not_le, Nat.not_lt, Nat.not_le, Bool.true_eq, Bool.false_eq, reduceCtorEq] at c44
            refine gc_seq fun K30 hK30 => ?_
            refine gc_seq fun K31 hK31 => ?_
            refine gc_region ?_
            refine gl_op rfl rfl rfl (op_pure hT rfl) ?_
            refine gl_op rfl rfl rfl (op_pure hT rfl) ?_
            refine gl_op rfl rfl rfl (op_pure hT rfl) ?_
            refine gl_split (t := 47) rfl (fun c47 => ?_) (fun c47 => ?_)
            · try simp only [decide_eq_true_eq, decide_eq_false_iff_not, Bool.not_eq_true', Bool.not_eq_false', Int.not_lt, Int.not_le, Nat.not_lt, Nat.not_le, Bool.true_eq, Bool.false_eq, reduceCtorEq] at c47
              refine gl_un rfl rfl rfl rfl ?_
              refine gl_op rfl rfl rfl (op_pure hT rfl) ?_
              refine gl_un rfl rfl rfl rfl ?_
              refine gl_op rfl rfl rfl (op_pure hT rfl) ?_
              refine gl_op rfl rfl rfl (op_pure hT rfl) ?_
              refine gl_nil ?_
              refine hK31 _ _ ?_
              clear hK31; try clear K31
              refine gc_cond rfl rfl (fun c50 => ?_) (fun c50 => ?_)
              · try simp only [decide_eq_true_eq, decide_eq_false_iff_not, Bool.not_eq_true', Bool.not_eq_false', Int.not_lt, Int.not_le, Nat.not_lt, Nat.not_le, Bool.true_eq, Bool.false_eq, reduceCtorEq] at c50
                refine gc_seq fun K32 hK32 => ?_
                refine gc_region ?_
                refine gl_op rfl rfl rfl (op_pure hT rfl) ?_
                refine gl_op rfl rfl rfl (op_pure hT rfl) ?_
                refine gl_op rfl rfl rfl (op_pure hT rfl) ?_
                refine gl_nil ?_
                refine hK32 _ _ ?_
                clear hK32; try clear K32
                refine gc_ret ?_
                try simp only [x_then_ret, x_block_ret]
                refine gk_ret3 rfl rfl rfl rfl ?_
                first
                  | (exfalso; omega)
                  | exact ⟨by rw [← hg, rdGo_form (by omega) (by omega) (by omega)], ⟨_, rfl⟩⟩
                  | exact ⟨by rw [← hg, rdGo_end (by omega) (by omega) (by omega)]; simp; omega, ⟨_, rfl⟩⟩
              · try simp only [decide_eq_true_eq, decide_eq_false_iff_not, Bool.not_eq_true', Bool.not_eq_false', Int.not_lt, Int.not_le, Nat.not_lt, Nat.not_le, Bool.true_eq, Bool.false_eq, reduceCtorEq] at c50
                refine gc_skip ?_
                refine hK30 _ _ ?_
                clear hK30; try clear K30
                refine gc_seq fun K33 hK33 => ?_
                refine gc_region ?_
                refine gl_op rfl rfl rfl (op_pure hT rfl) ?_
                refine gl_op rfl rfl rfl (op_pure hT rfl) ?_
                refine gl_op rfl rfl rfl (op_pure hT rfl) ?_
                first | refine gl_fit hT rfl rfl rfl rfl (by omega) ?_ | refine gl_op rfl rfl rfl (op_pure hT rfl) ?_
                first | refine gl_fit hT rfl rfl rfl rfl (by omega) ?_ | refine gl_op rfl rfl rfl (op_pure hT rfl) ?_
                refine gl_op rfl rfl rfl (op_pure hT rfl) ?_
                refine gl_op rfl rfl rfl (op_pure hT rfl) ?_
                refine gl_op rfl rfl rfl (op_pure hT rfl) ?_
                refine gl_nil ?_
                refine hK33 _ _ ?_
                clear hK33; try clear K33
                refine gc_ret ?_
                try simp only [x_then_ret, x_block_ret]
                refine gk_ret3 rfl rfl rfl rfl ?_
                first
                  | (exfalso; omega)
                  | exact ⟨by rw [← hg, rdGo_form (by omega) (by omega) (by omega)], ⟨_, rfl⟩⟩
                  | exact ⟨by rw [← hg, rdGo_end (by omega) (by omega) (by omega)]; simp; omega, ⟨_, rfl⟩⟩
            · try simp only [decide_eq_true_eq, decide_eq_false_iff_not, Bool.not_eq_true', Bool.not_eq_false', Int.not_lt, Int.not_le, Nat.not_lt, Nat.not_le, Bool.true_eq, Bool.false_eq, reduceCtorEq] at c47
              refine gl_pass rfl rfl rfl rfl rfl rfl ?_
              refine gl_pass rfl rfl rfl rfl rfl rfl ?_
              refine gl_op rfl rfl rfl (op_pure hT rfl) ?_
              refine gl_nil ?_
              refine hK31 _ _ ?_
              clear hK31; try clear K31
              refine gc_cond_f rfl ?_
              refine gc_skip ?_
              refine hK30 _ _ ?_
              clear hK30; try clear K30
              refine gc_seq fun K34 hK34 => ?_
              refine gc_region ?_
              refine gl_op rfl rfl rfl (op_pure hT rfl) ?_
              refine gl_op rfl rfl rfl (op_pure hT rfl) ?_
              refine gl_op rfl rfl rfl (op_pure hT rfl) ?_
              first | refine gl_fit hT rfl rfl rfl rfl (by omega) ?_ | refine gl_op rfl rfl rfl (op_pure hT rfl) ?_
              first | refine gl_fit hT rfl rfl rfl rfl (by omega) ?_ | refine gl_op rfl rfl rfl (op_pure hT rfl) ?_
              refine gl_op rfl rfl rfl (op_pure hT rfl) ?_
              refine gl_op rfl rfl rfl (op_pure hT rfl) ?_
              refine gl_op rfl rfl rfl (op_pure hT rfl) ?_
              refine gl_nil ?_
              refine hK34 _ _ ?_
              clear hK34; try clear K34
              refine gc_ret ?_
              try simp only [x_then_ret, x_block_ret]
              refine gk_ret3 rfl rfl rfl rfl ?_
              first
                | (exfalso; omega)
                | exact ⟨by rw [← hg, rdGo_form (by omega) (by omega) (by omega)], ⟨_, rfl⟩⟩
                | exact ⟨by rw [← hg, rdGo_end (by omega) (by omega) (by omega)]; simp; omega, ⟨_, rfl⟩⟩
          · try simp only [decide_eq_true_eq, decide_eq_false_iff_not, Bool.not_eq_true', Bool.not_eq_false', Int.not_lt, Int.not_le, Nat.not_lt, Nat.not_le, Bool.true_eq, Bool.false_eq, reduceCtorEq] at c44
            refine gc_skip ?_
            refine hK28 _ _ ?_
            clear hK28; try clear K28
            refine gc_region ?_
            refine gl_op rfl rfl rfl (op_pure hT rfl) ?_
            have hm8 : ((128 ^ i : Nat) : Int) * 128 = ((128 ^ (i + 1) : Nat) : Int) := by push_cast; rw [Int.pow_succ]
            refine gl_op rfl rfl rfl (op_pure hT rfl) ?_
            refine gl_spell 57 (v := .int .i64 ((128 ^ (i + 1) : Nat) : Int)) rfl (by rw [hm8, wrap_i64 (unit_fit hi (by omega))]) ?_
            refine gl_op rfl rfl rfl (op_pure hT rfl) ?_
            refine gl_nil ?_
            refine hK11 _ _ ?_
            clear hK11; try clear K11
            refine gc_region ?_
            refine gl_op rfl rfl rfl (op_pure hT rfl) ?_
            first | refine gl_fit hT rfl rfl rfl rfl (by omega) ?_ | refine gl_op rfl rfl rfl (op_pure hT rfl) ?_
            refine gl_op rfl rfl rfl (op_pure hT rfl) ?_
            refine gl_nil ?_
            intro a ha
            refine ⟨i + 1, _, ha.sub ⟨rfl, rfl, rfl, rfl, rfl, trivial⟩, by omega, by omega, hs, ?_, ⟨_, rfl⟩⟩
            rw [← hg, rdGo_more (by omega) (by omega)]
    · try simp only [decide_eq_true_eq, decide_eq_false_iff_not, Bool.not_eq_true', Bool.not_eq_false', Int.not_lt, Int.not_le, Nat.not_lt, Nat.not_le, Bool.true_eq, Bool.false_eq, reduceCtorEq] at c15
      refine gc_exit ?_
      refine hK7 _ _ ?_
      clear hK7; try clear K7
      refine gc_seq fun K35 hK35 => ?_
      refine gc_region ?_
      refine gl_op rfl rfl rfl (op_pure hT rfl) ?_
      refine gl_op rfl rfl rfl (op_pure hT rfl) ?_
      refine gl_op rfl rfl rfl (op_pure hT rfl) ?_
      refine gl_nil ?_
      refine hK35 _ _ ?_
      clear hK35; try clear K35
      refine gc_ret ?_
      try simp only [x_then_ret, x_block_ret]
      refine gk_ret3 rfl rfl rfl rfl ?_
      first
        | (exfalso; omega)
        | exact ⟨by rw [← hg, rdGo_form (by omega) (by omega) (by omega)], ⟨_, rfl⟩⟩
        | exact ⟨by rw [← hg, rdGo_end (by omega) (by omega) (by omega)]; simp; omega, ⟨_, rfl⟩⟩
end Go.Proofs.YtnomlloaahoceaaDoor

