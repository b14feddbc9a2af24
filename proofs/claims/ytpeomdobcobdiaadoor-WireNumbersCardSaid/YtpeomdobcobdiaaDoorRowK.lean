/- Our own words for rows: an argument that reads as data, opened to what the walks ask. No condition. -/
import Derived.Test.YtpeomdobcobdiaaDoorW5
import Derived.Test.YtpeomdobcobdiaaDoorRows
import Derived.ProofKit
import Derived.OpenShut
import Derived.ShutString
import Derived.ChangeOld
import Derived.Below
import Derived.SizedLaws
import Derived.SevenTiedAt
namespace Go.Proofs.YtpeomdobcobdiaaDoor
open Go.ChangeShapes Go.WideShapes Go.ChangeAt Go.RowKit
set_option linter.unusedVariables false
theorem own : ownKnob Tryd.prog.godebug = none := by kernel_rfl
theorem laidOut : laidOutB Tryd.prog = true := by kernel_rfl
section
variable {H : Type} {enc : TypeId × Value → H} {W W' : World}
theorem trod_blocks {P : Program} {t : TypeId} {v : Value} {d : DataW H} {p : List MemPlace} (h : DataW.Trod enc P W 0 (fun _ => true) true t v d p) : ∀ x ∈ p, x.block < W.heap.size := by
  obtain ⟨m, hm⟩ := h; exact DataW.trod_lt m _ _ _ hm
/-- An argument reads behind the call as it read ahead of it. -/
theorem trod_stays {t : TypeId} {v : Value} {d : DataW H} {p : List MemPlace} (hr : Tryd.prog.readableRec t = true) (ht : t < Tryd.prog.types.size) (h : DataW.Trod enc Tryd.prog W 0 (fun _ => true) true t v d p) (hb : Below W.heap.size W W') :
    DataW.Trod enc Tryd.prog W' 0 (fun b => decide (b < W.heap.size)) true t v d p :=
  Below.trod laidOut hr ht h hb (trod_blocks h)
theorem noStandIn {P : Program} {ps : Array TypeId} (h : (ps.toList.all fun t => !P.wantsStandIn t) = true) {j : Nat} {t : TypeId} (ht : ps[j]? = some t) : P.wantsStandIn t = false := by
  have := List.all_eq_true.1 h t (by rw [← Array.getElem?_toList] at ht; exact List.mem_of_getElem? ht)
  simpa using this
/-- A slice of bytes. -/
theorem open_u8s {P : Program} {t u8 : TypeId} {v : Value} {d : DataW H} {p : List MemPlace} {base : Nat} (ht : P.underlying t = some (.slice u8)) (he : P.underlying u8 = some (.int .u8)) (hc : P.cellsOf u8 = 1)
    (hok : Value.okWide P W .any base t v) (h : DataW.Trod enc P W 0 (fun _ => true) true t v d p) :
    ∃ (A : Option Addr) (c : Nat) (l : List UInt8), v = .slice A l.length c ∧ RdE W All uB A l ∧ l.length ≤ c ∧ c ≤ maxLen ∧ ((l = [] ∧ c = 0) ∨ ∃ el sp, d = .slice el sp ∧ el.length = l.length) := by
  obtain ⟨A, len, cap, rfl⟩ := okWide_slice ht hok
  obtain ⟨fuel, hf⟩ := h
  rcases open_ints ht he hc hf with ⟨hcs, _⟩ | ⟨x, l, c, zs, hcs, _, hl, hm, hz, hd, hcell, hwz⟩
  · simp [Value.cells] at hcs
    obtain ⟨rfl, rfl, rfl⟩ := hcs
    exact ⟨none, 0, [], rfl, ⟨rfl, fun h => absurd h (by simp)⟩, by simp, by simp [maxLen], .inl ⟨rfl, rfl⟩⟩
  · simp [Value.cells] at hcs
    obtain ⟨rfl, rfl, rfl⟩ := hcs
    have hzl : zs.length = cap := by simpa using hz
    have hL : ((zs.take len).map fun z => UInt8.ofNat z.toNat).length = len := by simp; omega
    refine ⟨some x, cap, (zs.take len).map fun z => UInt8.ofNat z.toNat, by rw [hL], ⟨by simp, fun _ => ⟨x, rfl, trivial, fun j u hu => ?_⟩⟩, by rw [hL]; exact hl, hm, .inr ⟨_, _, (Prod.mk.inj hd).1, by simp [lits]⟩⟩
    simp only [List.getElem?_map, List.getElem?_take] at hu
    split at hu
    · rename_i hj
      have hjz : j < zs.length := by omega
      rw [List.getElem?_eq_getElem hjz] at hu
      simp only [Option.map_some, Option.some.injEq] at hu
      rw [hcell j hjz, ← hu]
      have hw := hwz (zs[j]) (List.getElem_mem hjz)
      have e1 : IntKind.u8.min = 0 := rfl
      have e2 : IntKind.u8.max = 255 := rfl
      simp [Lit.wf, e1, e2] at hw
      simp only [List.getD_eq_getElem?_getD, List.getElem?_eq_getElem hjz, Option.getD_some, uB]
      have : ((UInt8.ofNat (zs[j]).toNat).toNat : Int) = zs[j] := by rw [UInt8.toNat_ofNat']; omega
      rw [this]
    · simp at hu
end
end Go.Proofs.YtpeomdobcobdiaaDoor
