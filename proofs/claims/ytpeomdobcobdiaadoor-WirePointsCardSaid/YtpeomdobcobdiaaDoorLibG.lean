/- Our own words: more operations. Nothing here speaks of a statement; no condition. -/
import Derived.Test.YtpeomdobcobdiaaDoorLibF
namespace Go.Proofs.YtpeomdobcobdiaaDoor
open Go.RowKit
set_option linter.unusedVariables false
set_option linter.unusedSimpArgs false
section
variable {P : Program} {N : Nat} {e : Env} {Q : Exit → Act → World → Prop} {w w0 w' : World} {T : TyTab} {B : Nat} {L : List It}
/-- What an item that is a block of cells reads as. -/
theorem St.objRd {α : Type} {enc : α → Value} (hS : St B w0 w L) {i g : Nat} {cur : Array Value} {el : TypeId} {fz : Nat × Nat} {l : List α} (hi : L[i]? = some (.obj g (.cells cur el fz))) (hc : cur.toList.take l.length = l.map enc) : RdE w All enc (some ⟨g, 0, none⟩) l := by
  have hb := hS.at hi
  refine ⟨by simp, fun _ => ⟨_, rfl, trivial, fun j u hu => ?_⟩⟩
  have hadd : (⟨g, 0, none⟩ : Addr).add j = ⟨g, j, none⟩ := by unfold Addr.add; split <;> simp_all
  rw [hadd, cell_of_row w g j cur el fz hb.2]
  rw [← hc, List.getElem?_take] at hu
  split at hu
  · simpa using hu
  · cases hu
/-- '[]byte("..")' of a constant. -/
theorem gl_mark {ops : Array Oper} {o : Oper} {rest : List Oper} {d : Nat} {t el : TypeId} {x : Operand} {g n c k m : Nat} {cs : List Value} (i : Nat) (hT : TabOk P T) (hS : St B w0 w L) (hd : o.dst = some d) (hg : o.guard = none) (hN : Nat.ble (d + 1) N = true)
    (ho : o.op = .convert t t x) (ht : tlook T t = some (.slice el)) (he : tlook T el = some (.int .u8)) (hx : evO e x = some (.slice (some ⟨g, 0, none⟩) n c)) (hi : L[i]? = some (.row (some ⟨g, 0, none⟩) k el 1 m cs))
    (h : ∀ w' cur fz, cur.toList.take m = cs → St B w0 w' (L.set i (.obj g (.cells cur el fz))) → GL P N ops ((d, .slice (some ⟨g, 0, none⟩) n c) :: e) rest Q w') : GL P N ops e (o :: rest) Q w := by
  have ho2 : Owns w B (some ⟨g, 0, none⟩) k el 1 m cs := hS.at hi
  rcases ho2.2 with ⟨h1, _⟩ | ⟨g', cap, cur, hv, hB, hh, h3, h4, h5, h6, h7⟩
  · cases h1
  · injection hv with hv; injection hv with hv _; subst hv
    have hlt := (Array.getElem?_eq_some_iff.1 hh).1
    refine gl_step (w' := w.freeze ⟨g, cur.size, none⟩ 1) hd (Nat.le_of_ble_eq_true hN) hg (fun a ha => ?_) (h _ cur (cur.size, cur.size + 1) (by rw [Nat.mul_one] at h7; exact h7) (hS.update hi rfl rfl rfl (by simp [World.freeze]) (fun b hb hf => ?_) ?_ ?_))
    · have hsh : w.shape? g = some (el, cur.size) := by simp [World.shape?, hh]
      have hmk : (markStringish ⟨g, 0, none⟩).run P w = .ok () (w.freeze ⟨g, cur.size, none⟩ 1) := by
        simp [markStringish, shape, Sem.run, hsh, freeze]
      have hcv : (convert t t (.slice (some ⟨g, 0, none⟩) n c)).run P w = .ok (.slice (some ⟨g, 0, none⟩) n c) (w.freeze ⟨g, cur.size, none⟩ 1) := by
        simp [convert, run_underlying (hT.at ht), run_underlying (hT.at he), hmk]
      simp only [execOp, ho, ha.eval hx, Sem.run_bind, hcv, Result.andThen_ok, Sem.run_pure]
    · have hne : b ≠ g := fun e => hf ⟨_, rfl, e.symm⟩
      simp [World.freeze, Array.getElem?_modify, Ne.symm hne]
    · refine ⟨hB, ?_⟩
      simp [World.freeze, Array.getElem?_modify, hh]
    · rintro b rfl; exact .inl ⟨_, rfl, rfl⟩
theorem yielded_none {a : Act} {ops : Array Oper} {j t : Nat} (hj : ((ops[j]?).bind (·.dst)) = some t) (ha : Fr N a e) (hl : look e t = some undef) : yielded ops a.tmps j = none := by
  have := ha.get t _ hl
  unfold yielded
  revert hj
  cases h : ops[j]? with
  | none => simp
  | some o =>
    simp only [Option.bind_some]
    intro ho
    simp [ho, this, undef]
/-- An operation whose guard's own operation was passed over. -/
theorem gl_none {ops : Array Oper} {o : Oper} {rest : List Oper} {d : Nat} (hd : o.dst = some d) {j t : Nat} {want : Bool} (hg : o.guard = some (j, want))
    (hj : ((ops[j]?).bind (·.dst)) = some t) (hl : look e t = some undef)
    (hN : Nat.ble (d + 1) N = true) (h : GL P N ops ((d, undef) :: e) rest Q w) : GL P N ops e (o :: rest) Q w := by
  intro a ha
  refine wpList_step fun K hK => ?_
  have hw : Region.wanted o (yielded ops a.tmps) = false := by
    simp [Region.wanted, hg, yielded_none hj ha hl]
  rw [if_neg (by rw [hw]; simp), hd]
  exact hK _ _ (h _ (ha.put (Nat.le_of_ble_eq_true hN) undef))
theorem gq_none {ops : Array Oper} {o : Oper} {rest : List Oper} {d : Nat} {Qa : Act → Prop} (hd : o.dst = some d) {j t : Nat} {want : Bool} (hg : o.guard = some (j, want))
    (hj : ((ops[j]?).bind (·.dst)) = some t) (hl : look e t = some undef)
    (hN : Nat.ble (d + 1) N = true) (h : GQ P N ops ((d, undef) :: e) rest (Eqv w) Qa) : GQ P N ops e (o :: rest) (Eqv w) Qa := by
  intro a ha
  refine wpQuiet_step fun K hK => ?_
  have hw : Region.wanted o (yielded ops a.tmps) = false := by
    simp [Region.wanted, hg, yielded_none hj ha hl]
  rw [if_neg (by rw [hw]; simp), hd]
  exact hK _ (h _ (ha.put (Nat.le_of_ble_eq_true hN) undef))
/-- A remainder by what is not 0. -/
theorem op_remv {o : Oper} {t yt : TypeId} {x y : Operand} {k : IntKind} {a b : Int} (ho : o.op = .binOp .rem t x y yt) (hx : evO e x = some (.int k a)) (hy : evO e y = some (.int k b)) (hb : b ≠ 0) : OpR P N e w o (.int k (a.tmod b)) := by
  intro q c ha
  simp [execOp, ho, ha.eval hx, ha.eval hy, eqGuard, binOp, Op.intDiv, hb, Sem.run_bind, Sem.run_pure]
theorem op_quov {o : Oper} {t yt : TypeId} {x y : Operand} {k : IntKind} {a b : Int} (ho : o.op = .binOp .quo t x y yt) (hx : evO e x = some (.int k a)) (hy : evO e y = some (.int k b)) (hb : b ≠ 0) : OpR P N e w o (.int k (k.wrap (a.tdiv b))) := by
  intro q c ha
  simp [execOp, ho, ha.eval hx, ha.eval hy, eqGuard, binOp, Op.intDiv, hb, Sem.run_bind, Sem.run_pure]
theorem RdE.pre {α : Type} {ok : Nat → Prop} {enc : α → Value} {A : Option Addr} {l : List α} (h : RdE w ok enc A l) {k : Nat} (hk : k ≤ l.length) : Rd w ok A k 1 ((l.take k).map enc) := by
  have := h.take k
  unfold RdE at this
  rw [List.length_take, Nat.min_eq_left hk] at this
  exact this
theorem RdE.suf {α : Type} {ok : Nat → Prop} {enc : α → Value} {A : Option Addr} {l : List α} (h : RdE w ok enc A l) {k cap : Nat} (hk : k ≤ l.length) (hc : l.length ≤ cap) :
    Rd w ok (if cap = k then A else A.map (·.add (k * 1))) (l.length - k) 1 ((l.drop k).map enc) := by
  have := h.drop hk hc
  unfold RdE at this
  rw [List.length_drop] at this
  exact this
theorem u8_mod (x : Int) : Value.int .u8 (IntKind.u8.wrap x) = uB (UInt8.ofNat (x % 256).toNat) := by
  have h0 : 0 ≤ x % 256 := by omega
  have h1 : x % 256 < 256 := by omega
  rw [IntKind.wrap_u8]
  unfold uB
  rw [UInt8.toNat_ofNat']
  congr 1
  omega
end
end Go.Proofs.YtpeomdobcobdiaaDoor
