/- Plain words: many lists of bytes that lie apart, put away as one piece, and taken out again. No condition. -/
import Derived.Test.YtpeomdobcobdiaaDoorLt1
import Derived.Test.YtpeomdobcobdiaaDoorLaw1
namespace Go.Proofs.YtpeomdobcobdiaaDoor
open Go.RowKit
set_option linter.unusedVariables false
set_option linter.unusedSimpArgs false
@[reducible] def slF (x : Sl) (b : Nat) : Prop := ∃ a, x.1 = some a ∧ a.block = b
theorem RdE.cellM {α : Type} {w : World} {ok : Nat → Prop} {enc : α → Value} {A : Option Addr} {l : List α} {ad : Addr} (h : RdE w ok enc A l) (hA : A = some ad) {p : Nat} {y : α} (hp : l[p]? = some y) : w.cell? (ad.add p) = some (enc y) := by
  obtain ⟨ad2, hA2, hc2⟩ := h.at y (i := (p : Int)) (by omega) (by have := (List.getElem?_eq_some_iff.1 hp).1; omega)
  have e1 : l.getD ((p : Int)).toNat y = y := by rw [Int.toNat_natCast, List.getD_eq_getElem?_getD, hp]; rfl
  rw [e1, Int.toNat_natCast, Nat.mul_one] at hc2
  rw [hA] at hA2
  obtain rfl := Option.some.inj hA2
  exact hc2
theorem RdE.baseM {α : Type} {w : World} {ok : Nat → Prop} {enc : α → Value} {A : Option Addr} {l : List α} (h : RdE w ok enc A l) {p : Nat} {y : α} (hp : l[p]? = some y) : ∃ ad, A = some ad := by
  obtain ⟨ad2, hA2, _⟩ := h.at y (i := (p : Int)) (by omega) (by have := (List.getElem?_eq_some_iff.1 hp).1; omega)
  exact ⟨ad2, hA2⟩
theorem snocG {α : Type} {l : List α} {a x : α} {i : Nat} (h : (l ++ [a])[i]? = some x) : (l[i]? = some x ∧ i < l.length) ∨ (i = l.length ∧ x = a) := by
  rcases Nat.lt_or_ge i l.length with hi | hi
  · rw [List.getElem?_append_left hi] at h; exact .inl ⟨h, hi⟩
  · rw [List.getElem?_append_right hi] at h
    have h1 : i - l.length = 0 := by
      rcases Nat.eq_zero_or_pos (i - l.length) with h1 | h1
      · exact h1
      · rw [List.getElem?_eq_none (by simp; omega)] at h; cases h
    rw [h1] at h
    simp at h
    exact .inr ⟨by omega, h.symm⟩
/-- Lists of bytes of this call, apart from each other, within one piece. -/
structure StD (B : Nat) (wk : World) (K : Nat → Prop) (SA : List Sl) (DA : List (List UInt8)) : Prop where
  len : SA.length = DA.length
  ok : ∀ (j : Nat) x d, SA[j]? = some x → DA[j]? = some d → x.2.1 = d.length ∧ Owns wk B x.1 x.2.2 5 1 d.length (d.map uB) ∧ ∀ b, slF x b → K b
  apart : ∀ (i j : Nat) x y, i < j → SA[i]? = some x → SA[j]? = some y → ∀ b, slF x b → ¬ slF y b
theorem StD.nil (B : Nat) (wk : World) (K : Nat → Prop) : StD B wk K [] [] := ⟨rfl, fun j x d h => by simp at h, fun i j x y _ h => by simp at h⟩
/-- One more is put away. -/
theorem StD.push {B : Nat} {w0 w wk : World} {i0 i1 i2 : It} {K : Nat → Prop} {SA : List Sl} {DA : List (List UInt8)} {A : Option Addr} {c n : Nat} {d : List UInt8} (hs : StD B wk K SA DA) (hn : n = d.length)
    (h : St B w0 w [i0, i1, i2, .keep K wk, .row A c 5 1 n (d.map uB)]) : ∃ K', St B w0 w [i0, i1, i2, .keep K' w] ∧ StD B w K' (SA ++ [(A, n, c)]) (DA ++ [d]) := by
  subst hn
  have hK := St.keepRest (L := [i0, i1, i2]) (L2 := [.keep K wk, .row A c 5 1 d.length (d.map uB)]) h
  refine ⟨_, hK, by simp [hs.len], fun j x e hx he => ?_, fun i j x y hij hx hy b hbx hby => ?_⟩
  · rcases snocG hx with ⟨hx, hj⟩ | ⟨hj, rfl⟩ <;> rcases snocG he with ⟨he, hj2⟩ | ⟨hj2, rfl⟩
    · obtain ⟨h1, h2, h3⟩ := hs.ok j x e hx he
      refine ⟨h1, h2.kept fun a ha => ?_, fun b hb => ⟨.keep K wk, by simp, h3 b hb⟩⟩
      have hkk := h.at (i := 3) rfl
      exact (hkk a.block (h3 _ ⟨a, ha, rfl⟩)).2.2.2
    · have := hs.len; omega
    · have := hs.len; omega
    · exact ⟨rfl, h.at (i := 4) rfl, fun b hb => ⟨.row A c 5 1 e.length (e.map uB), by simp, hb⟩⟩
  · have hap := h.2.2
    have hd : ∀ b, K b → ¬ slF (A, d.length, c) b := by
      have h1 := List.pairwise_iff_getElem.1 hap 3 4 (by simp) (by simp) (by omega)
      exact fun b hb hx => h1 b hb hx
    rcases snocG hx with ⟨hx, hi⟩ | ⟨hi, rfl⟩ <;> rcases snocG hy with ⟨hy, hj⟩ | ⟨hj, rfl⟩
    · exact hs.apart i j x y hij hx hy b hbx hby
    · have hl := hs.len
      obtain ⟨e, he⟩ : ∃ e, DA[i]? = some e := ⟨_, List.getElem?_eq_getElem (by omega)⟩
      exact hd b ((hs.ok i x e hx he).2.2 b hbx) hby
    · omega
    · omega
/-- What is to be read there. -/
def WtD (wk : World) (K : Nat → Prop) (w0 : World) (ok : Nat → Prop) (SW : List Sl) (DW : List (List UInt8)) : Prop := SW.length = DW.length ∧ ∀ (j : Nat) x d, SW[j]? = some x → DW[j]? = some d → x.2.1 = d.length ∧ (RdE wk K uB x.1 d ∨ RdE w0 ok uB x.1 d)
theorem WtD.nil {wk w0 : World} {K ok : Nat → Prop} : WtD wk K w0 ok [] [] := ⟨rfl, fun j x d h => by simp at h⟩
theorem WtD.snoc {wk w0 : World} {K ok : Nat → Prop} {SW : List Sl} {DW : List (List UInt8)} {x : Sl} {d : List UInt8} (h : WtD wk K w0 ok SW DW) (h1 : x.2.1 = d.length) (h2 : RdE wk K uB x.1 d ∨ RdE w0 ok uB x.1 d) : WtD wk K w0 ok (SW ++ [x]) (DW ++ [d]) := by
  refine ⟨by simp [h.1], fun j y e hy he => ?_⟩
  have hl := h.1
  rcases snocG hy with ⟨hy, hj⟩ | ⟨hj, rfl⟩ <;> rcases snocG he with ⟨he, hj2⟩ | ⟨hj2, rfl⟩
  · exact h.2 j y e hy he
  · omega
  · omega
  · exact ⟨h1, h2⟩
theorem WtD.lift {wk wk' w0 : World} {K K' ok : Nat → Prop} {SW : List Sl} {DW : List (List UInt8)} (h : WtD wk K w0 ok SW DW) (hl : ∀ {A : Option Addr} {d : List UInt8}, RdE wk K uB A d → RdE wk' K' uB A d) : WtD wk' K' w0 ok SW DW :=
  ⟨h.1, fun j x d h1 h2 => ⟨(h.2 j x d h1 h2).1, (h.2 j x d h1 h2).2.imp hl id⟩⟩
/-- One more beside what stays. -/
theorem St.pushW {B : Nat} {w0 w wk : World} {i0 i1 i2 : It} {K : Nat → Prop} {A : Option Addr} {c n : Nat} {d : List UInt8} (hn : n = d.length) (h : St B w0 w [i0, i1, i2, .keep K wk, .row A c 5 1 n (d.map uB)]) :
    ∃ K', St B w0 w [i0, i1, i2, .keep K' w] ∧ (∀ {A' : Option Addr} {e : List UInt8}, RdE wk K uB A' e → RdE w K' uB A' e) ∧ RdE w K' uB A d := by
  subst hn
  have hK := St.keepRest (L := [i0, i1, i2]) (L2 := [.keep K wk, .row A c 5 1 d.length (d.map uB)]) h
  refine ⟨_, hK, fun hr => (h.keepRd (i := 3) rfl hr).weaken fun b hb => ⟨.keep K wk, by simp, hb⟩, ?_⟩
  exact rdE_of (h.rowRd (i := 4) rfl fun b hb => ⟨.row A c 5 1 d.length (d.map uB), by simp, hb⟩) rfl
theorem St.keepSub {B : Nat} {w0 w wk : World} {L : List It} {K K' : Nat → Prop} (h : St B w0 w (L ++ [.keep K wk])) (hk : ∀ b, K' b → K b) : St B w0 w (L ++ [.keep K' wk]) := by
  obtain ⟨h1, h2, h3⟩ := h
  refine ⟨h1, fun it hi => ?_, ?_⟩
  · rcases List.mem_append.1 hi with hi | hi
    · exact h2 it (List.mem_append_left _ hi)
    · rw [List.mem_singleton] at hi
      subst hi
      have h4 := h2 (.keep K wk) (by simp)
      exact fun b hb => h4 b (hk b hb)
  · obtain ⟨g1, g2, g3⟩ := List.pairwise_append.1 h3
    refine List.pairwise_append.2 ⟨g1, List.pairwise_singleton _ _, fun z hz k hkk b hb hkb => ?_⟩
    rw [List.mem_singleton] at hkk
    subst hkk
    exact g3 z hz (.keep K wk) (by simp) b hb (hk b hkb)
/-- One list is taken out of what stays. -/
theorem St.carve {B : Nat} {w0 w wk : World} {L : List It} {K K' : Nat → Prop} {A : Option Addr} {c n : Nat} {cs : List Value} (h : St B w0 w (L ++ [.keep K wk])) (ho : Owns wk B A c 5 1 n cs) (hf : ∀ b, slF (A, n, c) b → K b) (hK : ∀ b, K' b → K b ∧ ¬ slF (A, n, c) b) :
    St B w0 w (L ++ [.row A c 5 1 n cs] ++ [.keep K' wk]) := by
  have hk : (It.keep K wk).ok B w := h.2.1 _ (by simp)
  have hrow : (It.row A c 5 1 n cs).ok B w := ho.kept fun a ha => (hk a.block (hf _ ⟨a, ha, rfl⟩)).2.2.2
  obtain ⟨h1, h2, h3⟩ := h
  obtain ⟨g1, _, g3⟩ := List.pairwise_append.1 h3
  refine ⟨h1, fun it hi => ?_, ?_⟩
  · rw [List.append_assoc, List.mem_append] at hi
    rcases hi with hi | hi
    · exact h2 it (List.mem_append_left _ hi)
    · simp only [List.cons_append, List.nil_append, List.mem_cons, List.not_mem_nil, or_false] at hi
      rcases hi with rfl | rfl
      · exact hrow
      · exact fun b hb => hk b (hK b hb).1
  · rw [List.append_assoc]
    refine List.pairwise_append.2 ⟨g1, ?_, fun z hz k hkk b hb hkb => ?_⟩
    · simp only [List.cons_append, List.nil_append, List.pairwise_cons, List.not_mem_nil, List.mem_cons, or_false]
      refine ⟨?_, ⟨fun _ h => h.elim, List.Pairwise.nil⟩⟩
      rintro k rfl b hb hkb
      exact (hK b hkb).2 hb
    · have hz2 := g3 z hz (.keep K wk) (by simp)
      simp only [List.cons_append, List.nil_append, List.mem_cons, List.not_mem_nil, or_false] at hkk
      rcases hkk with rfl | rfl
      · exact hz2 b hb (hf b hkb)
      · exact hz2 b hb (hK b hkb).1
theorem BkD.lift {w w' : World} {K K' : Nat → Prop} {S : List Sl} {M : List UInt8} (h : BkD w K S M) (hl : ∀ {A : Option Addr} {n : Nat} {cs : List Value}, Rd w K A n 1 cs → Rd w' K' A n 1 cs) : BkD w' K' S M := ⟨h.len, fun i x m h1 h2 => ⟨hl (h.rd i x m h1 h2).1, (h.rd i x m h1 h2).2⟩⟩
theorem BkD.snoc {w : World} {K : Nat → Prop} {S : List Sl} {M : List UInt8} {x : Sl} {m : UInt8} (h : BkD w K S M) (h1 : Rd w K x.1 x.2.1 1 (List.replicate x.2.1 (uB m))) (h2 : x.2.1 ≤ 1048576) : BkD w K (S ++ [x]) (M ++ [m]) := by
  refine ⟨by simp [h.len], fun i y u hy hu => ?_⟩
  have hl := h.len
  rcases snocG hy with ⟨hy, hj⟩ | ⟨hj, rfl⟩ <;> rcases snocG hu with ⟨hu, hj2⟩ | ⟨hj2, rfl⟩
  · exact h.rd i y u hy hu
  · omega
  · omega
  · exact ⟨h1, h2⟩
theorem BkD.nil (w : World) (K : Nat → Prop) : BkD w K [] [] := ⟨rfl, fun i x m h => by simp at h⟩
theorem SameL_calls (A1 A2 : Option Addr) (n1 c1 n2 c2 : Nat) (l1 l2 : List UInt8) (w : World) {ok1 ok2 : Nat → Prop} (h1 : RdE w ok1 uB A1 l1) (h2 : RdE w ok2 uB A2 l2) (e1 : n1 = l1.length) (e2 : n2 = l2.length) (hb : l1.length ≤ 9223372036854775807) (he : l1 = l2) :
    Calls Tryd.prog 18 ⟨[.slice A1 n1 c1, .slice A2 n2 c2]⟩ w fun e w' => e = .returned (.bool true) ∧ Eqv w w' := by
  subst e1; subst e2
  have h := Same_calls A1 A2 c1 c2 l1 l2 w h1 h2 hb
  rw [decide_eq_true he] at h
  exact h
theorem rFrameS_calls (A : Option Addr) (n c : Nat) (l : List UInt8) (w : World) {ok : Nat → Prop} (h1 : RdE w ok uB A l) (hn : n = l.length) (hb : l.length ≤ 1048576) :
    Calls Tryd.prog 41 ⟨[.slice A n c]⟩ w fun e w' => ∃ A' c', e = .returned (.tuple #[.slice A' (frameB l).length c', .int .i64 0]) ∧ Owns w' w.heap.size A' c' 5 1 (frameB l).length ((frameB l).map uB) ∧ Below w.heap.size w w' := by
  subst hn
  have h := rFrame_calls A c l w h1 (by omega)
  rw [show frameV l = (frameB l, 0) by unfold frameV; rw [if_neg (by omega)]] at h
  exact h
theorem wFrameS_calls (A : Option Addr) (n c : Nat) (l : List UInt8) (w : World) {ok : Nat → Prop} (h1 : RdE w ok uB A l) (hn : n = l.length) (hb : l.length ≤ 1048576) :
    Calls Tryd.prog 40 ⟨[.slice A n c]⟩ w fun e w' => ∃ A' c', e = .returned (.tuple #[.slice A' (frameB l).length c', .int .i64 0]) ∧ Owns w' w.heap.size A' c' 5 1 (frameB l).length ((frameB l).map uB) ∧ Below w.heap.size w w' := by
  subst hn
  have h := Frame_calls A c l w h1 (by omega)
  rw [show frameV l = (frameB l, 0) by unfold frameV; rw [if_neg (by omega)]] at h
  exact h
theorem readB_calls (A : Option Addr) (n c : Nat) (l : List UInt8) (w : World) {ok : Nat → Prop} (h1 : RdE w ok uB A (frameB l)) (hn : n = (frameB l).length) (hb : l.length ≤ 1048576) (hc : n ≤ c) :
    Calls Tryd.prog 42 ⟨[.slice A n c, .int .i64 0]⟩ w fun e w' => ∃ A' c' e2 e3, e = .returned (.tuple #[.slice A' l.length c', .int .i64 e2, .int .i64 e3]) ∧ Owns w' w.heap.size A' c' 5 1 l.length (l.map uB) ∧ Below w.heap.size w w' := by
  have h := ReadFrameN_calls A n c (frameB l) 0 w h1 hn (by rw [frameB_len]; omega) (by omega)
  have e := readFrame_frame [] l [] hb
  rw [List.append_nil, List.nil_append] at e
  have e2 : readFrameV (frameB l) 0 = (l, _, 0) := e
  rw [e2] at h
  exact h.mono fun en w' ⟨A', c', h1, h2, h3⟩ => ⟨A', c', _, _, h1, h2, h3⟩
/-- What each round asks for. -/
def D5 (n : Int) (u : Nat) (s : ByteArray) (bd : List UInt8) : List (List UInt8) := [(uintV n).1, (floatV u).1, (textV s).1, frameB bd, bd]
theorem D5_bd {n : Int} {u : Nat} {s : ByteArray} {bd : List UInt8} (hn : n ≤ 9223372036854775807) (hs : s.size ≤ 4000) (hb : bd.length ≤ 4000) : ∀ d ∈ D5 n u s bd, d.length ≤ 10000 := by
  intro d hd
  unfold D5 at hd
  simp only [List.mem_cons, List.not_mem_nil, or_false] at hd
  rcases hd with rfl | rfl | rfl | rfl | rfl
  · unfold uintV; split
    · simp
    · have := encU_len 8 n.toNat (by rw [show (128 : Nat) ^ (8 + 1) = 9223372036854775808 by decide]; omega)
      simp only; omega
  · unfold floatV; split
    · simp
    · simp only [leB_len]; omega
  · unfold textV; split
    · simp
    · have := encU_len 8 s.size (by rw [show (128 : Nat) ^ (8 + 1) = 9223372036854775808 by decide]; omega)
      have e : s.data.toList.length = s.size := by rw [Array.length_toList]; rfl
      simp only [List.length_append, e]; omega
  · rw [frameB_len]; omega
  · omega
end Go.Proofs.YtpeomdobcobdiaaDoor
