/- Our own words: what a callee has made, joined; the last pieces as one that stays. Nothing here speaks of a statement; no condition. -/
import Derived.Test.YtpeomdobcobdiaaDoorLibK
namespace Go.Proofs.YtpeomdobcobdiaaDoor
open Go.RowKit
set_option linter.unusedVariables false
set_option linter.unusedSimpArgs false
/-- What a callee has made beside what is here. -/
theorem St.more {B : Nat} {w0 w w' : World} {L L' : List It} (h : St B w0 w L) (h2 : St w.heap.size w w' L') : St B w0 w' (L ++ L') := by
  have hb := h2.below
  have hg := h.grown hb
  refine ⟨hg.1, fun it hi => ?_, ?_⟩
  · rcases List.mem_append.1 hi with hi | hi
    · exact hg.2.1 it hi
    · have hok := h2.2.1 it hi
      have hB := h.size
      cases it with
      | row A c el sz m cs => exact Owns.mono hok hB
      | blk g t cs => exact ⟨Nat.le_trans hB hok.1, hok.2⟩
      | keep S w1 => exact fun b hb => ⟨Nat.le_trans hB (hok b hb).1, (hok b hb).2⟩
      | obj g o => exact ⟨Nat.le_trans hB hok.1, hok.2⟩
  · refine List.pairwise_append.2 ⟨hg.2.2, h2.2.2, fun x hx y hy b hbx hby => ?_⟩
    have h3 := (It.ok_lt (h.2.1 x hx) hbx).2
    have h4 := (It.ok_lt (h2.2.1 y hy) hby).1
    omega
theorem rd_of {α : Type} {enc : α → Value} {w : World} {ok : Nat → Prop} {A : Option Addr} {n : Nat} {l : List α} (h : RdE w ok enc A l) (hl : l.length = n) : Rd w ok A n 1 (l.map enc) := by subst hl; exact h
theorem rdE_of {α : Type} {enc : α → Value} {w : World} {ok : Nat → Prop} {A : Option Addr} {n : Nat} {l : List α} (h : Rd w ok A n 1 (l.map enc)) (hl : l.length = n) : RdE w ok enc A l := by subst hl; exact h
/-- What comes last, as one piece that stays. -/
theorem St.keepRest {B : Nat} {w0 w : World} {L L2 : List It} (h : St B w0 w (L ++ L2)) : St B w0 w (L ++ [.keep (fun b => ∃ it ∈ L2, it.fp b) w]) := by
  obtain ⟨h1, h2, h3⟩ := h
  refine ⟨h1, fun it hi => ?_, ?_⟩
  · rcases List.mem_append.1 hi with hi | hi
    · exact h2 it (List.mem_append_left _ hi)
    · rw [List.mem_singleton] at hi
      subst hi
      rintro b ⟨it, hit, hb⟩
      have := It.ok_lt (h2 it (List.mem_append_right _ hit)) hb
      exact ⟨this.1, this.2, this.2, rfl⟩
  · obtain ⟨g1, g2, g3⟩ := List.pairwise_append.1 h3
    refine List.pairwise_append.2 ⟨g1, List.pairwise_singleton _ _, fun z hz k hk b hb hkb => ?_⟩
    rw [List.mem_singleton] at hk
    subst hk
    obtain ⟨it, hit, hb2⟩ := hkb
    exact g3 z hz it hit b hb hb2
theorem St.rowRd {B : Nat} {w0 w : World} {L : List It} (h : St B w0 w L) {i : Nat} {A : Option Addr} {c : Nat} {el : TypeId} {sz m : Nat} {cs : List Value} (hi : L[i]? = some (.row A c el sz m cs)) {ok : Nat → Prop} (hok : ∀ b, It.fp (.row A c el sz m cs) b → ok b) : Rd w ok A m sz cs := (Owns.rdFp (h.at hi)).weaken hok
theorem Rd.pre {w : World} {ok : Nat → Prop} {A : Option Addr} {n m : Nat} {cs ds : List Value} (h : Rd w ok A n 1 (cs ++ ds)) (hm : cs.length = m) (hn : m ≤ n) : Rd w ok A m 1 cs := by
  have := h.take hn
  rw [Nat.mul_one, List.take_left' hm] at this
  exact this
theorem keep_mem {L2 : List It} {x : It} (h : x ∈ L2) : ∀ b, x.fp b → ∃ it ∈ L2, it.fp b := fun b hb => ⟨x, h, hb⟩
/-- All that is here as one piece that stays. -/
theorem St.keepAll {B : Nat} {w0 w : World} {L2 : List It} (h : St B w0 w L2) : St B w0 w [.keep (fun b => ∃ it ∈ L2, it.fp b) w] := St.keepRest (L := []) h
end Go.Proofs.YtpeomdobcobdiaaDoor
