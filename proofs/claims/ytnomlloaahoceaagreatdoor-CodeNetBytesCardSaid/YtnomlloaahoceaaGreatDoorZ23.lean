/- Contracts of functions that CodeNetBytes reaches, and words to say them. No condition. -/
import Derived.Test.YtnomlloaahoceaaGreatDoorZ16
import Derived.Test.YtnomlloaahoceaaGreatDoorZ18
import Derived.Test.YtnomlloaahoceaaGreatDoorZ22
import Derived.Test.YtnomlloaahoceaaGreatDoorZ03
/- Contracts of package ambitref8: complex numbers read. No condition. -/
namespace Go.Proofs.YtnomlloaahoceaaGreatDoor
open Go.RowKit
set_option linter.unusedVariables false
set_option linter.unusedSimpArgs false
@[reducible] def pC (z : Nat × Nat) : List Value := [uV z.1, uV z.2]
theorem prs_odd : ∀ (n : Nat) (l : List Nat) (a : Nat), l.length = 2 * n → prs (l ++ [a]) = prs l
 | 0, [], a, _ => rfl
 | n + 1, c :: d :: r, a, h => by
  show (c, d) :: prs (r ++ [a]) = (c, d) :: prs r
  rw [prs_odd n r a (by simp at h; omega)]
 | 0, c :: r, a, h => by simp at h
 | n + 1, [], a, h => absurd h (by simp)
 | n + 1, [c], a, h => absurd h (by simp; omega)
theorem take2 {l : List Nat} {i : Nat} {a b : Nat} (ha : l[i]? = some a) (hb : l[i + 1]? = some b) : l.take (i + 2) = l.take i ++ [a, b] := by
 rw [show i + 2 = i + 1 + 1 by omega, List.take_add_one, hb, List.take_add_one, ha]
 simp
set_option maxRecDepth 100000 in
theorem rdPairs_calls {B : Nat} {w0 : World} (g : Nat) (bt : TypeId) (A : Option Addr) (c : Nat) (l : List UInt8) (s : RS) (m : Nat) (L : List It) (w : World) (hS0 : St B w0 w (.blk g bt (rsC A l.length c s) :: L)) {ok : Nat → Prop} (hr : Rdb B w0 ok A l) (hb : l.length ≤ 4611686018427387904) (hm : m ≤ 65536) (ha : 0 ≤ s.a) :
 Calls Tryz.prog 59 ⟨[.pointer (some ⟨g, 0, none⟩), .int .i64 (m : Nat)]⟩ w fun en w' => ∃ A' c', en = .returned (.slice A' (prs (rsFs l (2 * m) s).1).length c') ∧ St B w0 w' (.blk g bt (rsC A l.length c (rsFs l (2 * m) s).2) :: .row A' c' 136 2 (prs (rsFs l (2 * m) s).1).length ((prs (rsFs l (2 * m) s).1).map pC).flatten :: L) := by
 have hF := rsFs_ok l (2 * m) s
 have hU := fun (w1 : World) (h1 : St B w0 w1 (.blk g bt (rsC A l.length c s) :: L)) => rdFloats_calls g bt A c l s ((2 * m : Nat) : Int) L w1 h1 hr hb (by omega) (fun _ => by omega) ha
 simp only [Int.toNat_natCast] at hU
 generalize rsFs l (2 * m) s = q at hF hU ⊢
 obtain ⟨us, s1⟩ := q
 simp only at hF hU ⊢
 refine gc_enter (N := 33) Tryz.func59 rfl rfl rfl [(0, _), (1, _)] rfl ?_
 have hS := St.start w
 have hS := hS0
 refine gc_seq fun K1 hK1 => gc_region (Zp rfl (gl_nil (hK1 _ _ (gc_seq fun K2 hK2 => gc_region (Zp rfl (Zp rfl (Zi rfl (by omega) ?_)))))))
 refine gl_spell 10 (v := .int .i64 ((2 * m : Nat) : Int)) rfl (congrArg (Value.int .i64) (by omega)) ?_
 refine gl_callf rfl rfl rfl rfl Tryz.func57 rfl rfl rfl (hU _ hS) ?_
 rintro _ w11 ⟨A11, c11, rfl, hS⟩
 refine ⟨_, rfl, ?_⟩
 refine Zp rfl (gl_nil (hK2 _ _ (gc_seq fun K3 hK3 => gc_region (Zp rfl (gl_nil (hK3 _ _ (gc_seq fun K4 hK4 => gc_seq fun K5 hK5 => gc_region (Zp rfl (gl_nil (hK5 _ _ (gc_block ?_)))))))))))
 have hS : St B w0 _ (.blk g bt (rsC A l.length c s1) :: .row A11 c11 77 1 us.length (us.map uV) :: .row none 0 136 2 0 [] :: L) := (hS.nil 136 2).moveIn 2
 refine gc_loop (fun kk a' w' => ∃ (i : Nat) (A' : Option Addr) (c' : Nat), Fr 33 a' [(5, .slice A11 us.length c11), (6, .slice A' i c'), (7, .int .i64 ((2 * i : Nat) : Int))] ∧ 2 * i ≤ us.length ∧ kk = us.length + 1 - i ∧
  St B w0 w' (.blk g bt (rsC A l.length c s1) :: .row A11 c11 77 1 us.length (us.map uV) :: .row A' c' 136 2 i ((prs (us.take (2 * i))).map pC).flatten :: L)) (us.length + 1) ?_ ?_ ?_
 ·intro a' ha'; exact ⟨0, none, 0, ha'.sub ⟨rfl, rfl, rfl, trivial⟩, by omega, by omega, hS⟩
 ·rintro a' w' ⟨i, _, _, _, h1, h2, _⟩; omega
 clear hS
 rintro kk a' w1 ⟨i, A', c', hF5, hi, hk, hS⟩
 refine gc_of hF5 ?_
 clear hF5
 have hul : us.length ≤ 131072 := by omega
 refine gc_seq fun K6 hK6 => gc_seq fun K7 hK7 => gc_region (Zp rfl (Zi rfl (by omega) ?_))
 refine Zp rfl (Zp rfl (Zp rfl (gl_nil (hK7 _ _ (gc_cond rfl rfl (fun c16 => ?_) (fun c16 => ?_))))))
 ·simp only [NN, reduceCtorEq] at c16
  refine gc_skip (hK6 _ _ (gc_seq fun K8 hK8 => gc_block (gc_anyS (hS.blank 2) (by kernel_rfl) rfl fun nq6 hK => ?_)))
  have hS := hS.dr nq6
  obtain ⟨u, hu⟩ : ∃ u, us[2 * i]? = some u := ⟨_, List.getElem?_eq_getElem (by omega)⟩
  obtain ⟨v, hv⟩ : ∃ v, us[2 * i + 1]? = some v := ⟨_, List.getElem?_eq_getElem (by omega)⟩
  have hug : us.getD (((2 * i : Nat) : Int)).toNat 0 = u := by rw [Int.toNat_natCast, List.getD_eq_getElem?_getD, hu]; rfl
  have hvg : us.getD (((2 * i : Nat) : Int) + 1).toNat 0 = v := by rw [show (((2 * i : Nat) : Int) + 1).toNat = 2 * i + 1 by omega, List.getD_eq_getElem?_getD, hv]; rfl
  have hcu : ∀ {w1 : World} {x y : It} {L1 : List It}, St B w0 w1 (x :: .row A11 c11 77 1 us.length (us.map uV) :: L1) → ∃ ad, A11 = some ad ∧ w1.cell? (ad.add ((((2 * i : Nat) : Int)).toNat * 1)) = some (uV u) ∧ w1.cell? (ad.add ((((2 * i : Nat) : Int) + 1).toNat * 1)) = some (uV v) := by
   intro w1 x y L1 hS
   obtain ⟨ad, hA1, hc1⟩ := (hS.rdE (l := us) (i := 1) rfl).at 0 (i := ((2 * i : Nat) : Int)) (by omega) (by omega)
   obtain ⟨ad2, hA2, hc2⟩ := (hS.rdE (l := us) (i := 1) rfl).at 0 (i := ((2 * i : Nat) : Int) + 1) (by omega) (by omega)
   rw [hA1] at hA2
   injection hA2 with hA2
   subst hA2
   rw [hug] at hc1
   rw [hvg] at hc2
   exact ⟨ad, hA1, hc1, hc2⟩
  obtain ⟨ad, rfl, _, _⟩ := hcu (y := blank w0) hS
  have hcu2 : ∀ {w1 : World} {x : It} {L1 : List It}, St B w0 w1 (x :: .row (some ad) c11 77 1 us.length (us.map uV) :: L1) → w1.cell? (ad.add ((((2 * i : Nat) : Int)).toNat * 1)) = some (uV u) ∧ w1.cell? (ad.add ((((2 * i : Nat) : Int) + 1).toNat * 1)) = some (uV v) := by
   intro w1 x L1 hS
   obtain ⟨ad2, h1, h2⟩ := hcu (y := blank w0) hS
   injection h1 with h1
   subst h1
   exact h2
  refine Yp 0 rfl (by kernel_rfl) (fun _ _ _ _ h => h) hK ?_
  refine Yp 1 rfl (by kernel_rfl) (fun _ _ _ _ h => h) hK ?_
  refine Yp 2 rfl (by kernel_rfl) (fun _ _ _ _ h => h) hK ?_
  refine ga_take 3 rfl rfl rfl rfl (by kernel_rfl) (fun _ _ _ _ h => h) hK (fun w1 hS => op_indexAddr hT rfl rfl el77.cellsOf.1 el77.cellsOf.2 rfl rfl (by omega) (by omega) rfl) ?_
  refine ga_take 4 rfl rfl rfl rfl (by kernel_rfl) (fun _ _ _ _ h => h) hK (fun w1 hS => op_load hT rfl rfl rfl rfl (hcu2 hS).1) ?_
  refine Yp 5 rfl (by kernel_rfl) (fun _ _ _ _ h => h) hK ?_
  refine Yp 6 rfl (by kernel_rfl) (fun _ _ _ _ h => h) hK ?_
  refine ga_take 7 rfl rfl rfl rfl (by kernel_rfl) (fun _ _ _ _ h => h) hK (fun w1 hS => op_fit (n := ((2 * i : Nat) : Int) + 1) hT rfl (by omega)) ?_
  refine ga_take 8 rfl rfl rfl rfl (by kernel_rfl) (fun _ _ _ _ h => h) hK (fun w1 hS => op_indexAddr hT rfl rfl el77.cellsOf.1 el77.cellsOf.2 rfl rfl (by omega) (by omega) rfl) ?_
  refine ga_take 9 rfl rfl rfl rfl (by kernel_rfl) (fun _ _ _ _ h => h) hK (fun w1 hS => op_load hT rfl rfl rfl rfl (hcu2 hS).2) ?_
  refine ga_take 10 rfl rfl rfl rfl (by kernel_rfl) (fun _ _ _ _ h => h) hK (fun w1 hS => op_buildG rfl plan136 rfl rfl) ?_
  refine ga_one 11 (by kernel_rfl) rfl ?_
  refine gl_litS hT hS el136 rfl rfl rfl rfl rfl rfl rfl (by decide) fun g30 w30 hS => ?_
  have hS := hS.moveIn 3
  refine gl_nil (ga_next ((hS.blank 2).erase 3) fun hK => ?_)
  refine ga_one 12 (by kernel_rfl) rfl ?_
  refine gl_append 2 hT hS el136 (hS.rd (i := 3) rfl) rfl rfl rfl rfl rfl rfl rfl rfl rfl (by omega) (by omega) fun A31 c31 w31 hS => ?_
  refine gl_nil (ga_next ((hS.blank 2).erase 3) fun hK => ?_)
  refine Yp 13 rfl (by kernel_rfl) (fun _ _ _ _ h => h) hK ?_
  refine ga_done (by kernel_rfl) ?_
  refine hK8 _ _ (gc_region (Zp rfl (Zi rfl (by omega) ?_)))
  refine Zp rfl (gl_nil ?_)
  intro a' ha'
  refine ⟨i + 1, A31, c31, ha'.sub ⟨rfl, rfl, by rw [show (((2 * (i + 1) : Nat) : Nat) : Int) = ((2 * i : Nat) : Int) + 2 by omega]; rfl, trivial⟩, by omega, by omega, ?_⟩
  have htk : prs (us.take (2 * (i + 1))) = prs (us.take (2 * i)) ++ [(u, v)] := by
   rw [show 2 * (i + 1) = 2 * i + 2 by omega, take2 hu hv, prs_snoc i _ u v (by rw [List.length_take]; omega)]
  rw [htk, flat_snoc]
  exact hS.erase 3
 simp only [NN, reduceCtorEq] at c16
 refine gc_exit ?_
 refine hK4 _ _ (gc_seq fun K9 hK9 => gc_region (Zp rfl (Zp rfl (gl_nil (hK9 _ _ (gc_ret (gk_ret1 rfl rfl ?_)))))))
 have hend : prs us = prs (us.take (2 * i)) ∧ (prs us).length = i := by
  rcases Nat.lt_or_ge (2 * i) us.length with h | h
  ·obtain ⟨u, hu⟩ : ∃ u, us[2 * i]? = some u := ⟨_, List.getElem?_eq_getElem h⟩
   have e : us = us.take (2 * i) ++ [u] := by
    have := List.take_add_one (l := us) (i := 2 * i)
    rw [hu, List.take_of_length_le (by omega)] at this
    exact this
   have e2 : prs us = prs (us.take (2 * i)) := by
    have h3 := prs_odd i (us.take (2 * i)) u (by rw [List.length_take]; omega)
    rw [← e] at h3
    exact h3
   exact ⟨e2, by rw [e2]; exact prs_len i _ (by rw [List.length_take]; omega)⟩
  have e : us.take (2 * i) = us := List.take_of_length_le h
  rw [e]
  exact ⟨rfl, prs_len i us (by omega)⟩
 rw [hend.2]
 rw [← hend.1] at hS
 exact ⟨A', c', rfl, hS.erase 1⟩
end Go.Proofs.YtnomlloaahoceaaGreatDoor
