/- Contracts of functions that CodeNetBytes reaches, and words to say them. No condition. -/
import Derived.Test.YtnomlloaahoceaaGreatDoorZ15
import Derived.Test.YtnomlloaahoceaaGreatDoorZ19
import Derived.Test.YtnomlloaahoceaaGreatDoorZ03
import Derived.Test.YtnomlloaahoceaaGreatDoorZ07
/- Contracts of package ambitref8: a question read from bytes. No condition. -/
namespace Go.Proofs.YtnomlloaahoceaaGreatDoor
open Go.RowKit
set_option linter.unusedVariables false
set_option linter.unusedSimpArgs false
end Go.Proofs.YtnomlloaahoceaaGreatDoor

/- Contracts: bytes laid with marks behind, and whether they stand. No condition. -/
namespace Go.Proofs.YtnomlloaahoceaaGreatDoor
open Go.RowKit
set_option linter.unusedVariables false
set_option linter.unusedSimpArgs false
def mk5 : List UInt8 := [201, 202, 203, 204, 205]
theorem num8_calls (n : Int) (w : World) : Calls Tryz.prog 9 ⟨[.int .i64 n]⟩ w fun e w' => e = .returned (.int .i64 n) ∧ Eqv w w' := by
 refine gc_enter (N := 4) Tryz.func9 rfl rfl rfl [(0, _)] rfl ?_
 refine gc_seq fun K1 hK1 => gc_region (Zp rfl (gl_nil (hK1 _ _ (gc_seq fun K2 hK2 => gc_region (Zp rfl (Zp rfl (gl_nil (hK2 _ _ (gc_ret (gk_ret1 rfl rfl ?_))))))))))
 exact ⟨rfl, Eqv.refl _⟩
theorem same8_calls (A B : Option Addr) (n c n2 c2 : Nat) (l l2 : List UInt8) (w : World) {ok ok2 : Nat → Prop} (hA : RdE w ok uB A l) (hn : n = l.length) (hB : RdE w ok2 uB B l2) (hn2 : n2 = l2.length) (he : l = l2) :
 Calls Tryz.prog 16 ⟨[.slice A n c, .slice B n2 c2]⟩ w fun e w' => e = .returned (.bool true) ∧ Eqv w w' := by
 refine gc_enter (N := 10) Tryz.func16 rfl rfl rfl [(0, _), (1, _)] rfl ?_
 refine gc_seq fun K1 hK1 => gc_region (Zp rfl (gl_nil (hK1 _ _ (gc_seq fun K2 hK2 => gc_region (Zp rfl (gl_op rfl rfl rfl (op_b2s hT hA rfl rfl rfl rfl rfl hn) ?_))))))
 refine Zp rfl (gl_op rfl rfl rfl (op_b2s hT hB rfl rfl rfl rfl rfl hn2) ?_)
 refine Zp rfl (Zp rfl (gl_nil (hK2 _ _ (gc_ret (gk_ret1 rfl rfl ?_)))))
 exact ⟨by subst he; simp, Eqv.refl _⟩
theorem wide_calls (A : Option Addr) (n c : Nat) (l : List UInt8) (w : World) {ok : Nat → Prop} (h1 : RdE w ok uB A l) (hn : n = l.length) (hb : l.length ≤ 140737488351232) :
 Calls Tryz.prog 6 ⟨[.slice A n c]⟩ w fun e w' => ∃ A' c', e = .returned (.slice A' n c') ∧ n + 5 ≤ c' ∧ St w.heap.size w w' [.row A' c' 5 1 (n + 5) ((l ++ mk5).map uB)] := by
 subst hn
 refine gc_enter (N := 14) Tryz.func6 rfl rfl rfl [(0, _)] rfl ?_
 have hS := St.start w
 refine gc_seq fun K1 hK1 => gc_region (Zp rfl (gl_nil (hK1 _ _ (gc_seq fun K2 hK2 => gc_region (Zp rfl (gl_nil (hK2 _ _ (gc_seq fun K3 hK3 => gc_region (Zp rfl (Zp rfl (gl_append0 hT hS el5 (Rd.old h1 (by decide) hS) (allOne_map (fun _ => rfl) _) rfl rfl rfl rfl rfl rfl rfl (by omega) (by omega) fun A6 c6 w6 hS => ?_)))))))))))
 refine Zp rfl (gl_nil (hK3 _ _ (gc_seq fun K4 hK4 => gc_region (Zp rfl (gl_lit hT hS el5 rfl rfl rfl rfl rfl rfl rfl rfl rfl fun g8 w8 hS => ?_)))))
 refine gl_append 0 hT hS el5 (hS.rd (i := 1) rfl) (rfl) rfl rfl rfl rfl rfl rfl rfl rfl (by first | omega | (simp; omega)) (by first | omega | (simp; omega)) fun A9 c9 w9 hS => ?_
 have hS := hS.erase 1
 refine Zp rfl (gl_nil (hK4 _ _ (gc_seq fun K5 hK5 => gc_region (Zp rfl ?_))))
 have hcap := (hS.cap (i := 0) rfl).1
 refine Zp rfl (Zp rfl (gl_op rfl rfl rfl (op_slice_h hT el5 rfl rfl rfl rfl (by first | omega | (simp; omega)) (by first | omega | (simp; omega))) ?_))
 refine Zp rfl (gl_nil (hK5 _ _ (gc_ret (gk_ret1 rfl rfl ?_))))
 exact ⟨A9, c9, rfl, hcap, by rw [List.map_append]; exact hS⟩
theorem kept_calls (A B : Option Addr) (n c n2 c2 : Nat) (l : List UInt8) (w : World) {ok ok2 : Nat → Prop} (hA : RdE w ok uB A (l ++ mk5)) (hn : n = l.length) (hc : n + 5 ≤ c) (hB : RdE w ok2 uB B l) (hn2 : n2 = l.length) (hb : l.length ≤ 140737488351232) :
 Calls Tryz.prog 12 ⟨[.slice A n c, .slice B n2 c2]⟩ w fun e w' => e = .returned (.bool true) ∧ Below w.heap.size w w' := by
 subst hn
 subst hn2
 have hl5 : (l ++ mk5).length = l.length + 5 := by rw [List.length_append]; rfl
 have hA0 : RdE w ok uB A l := by have := hA.take l.length; rwa [List.take_left] at this
 refine gc_enter (N := 21) Tryz.func12 rfl rfl rfl [(0, _), (1, _)] rfl ?_
 have hS := St.start w
 refine gc_seq fun K1 hK1 => gc_region (Zp rfl (gl_nil (hK1 _ _ (gc_seq fun K2 hK2 => gc_region (Zp rfl (Zp rfl (Zp rfl (gl_nil (hK2 _ _ (gc_seq fun K3 hK3 => gc_region (Zp rfl (Zp rfl (gl_callf rfl rfl rfl rfl Tryz.func16 rfl rfl rfl (same8_calls A B _ _ _ _ l l _ (hA0.old hS) rfl (hB.old hS) rfl rfl) ?_)))))))))))))
 rintro _ w10 ⟨rfl, hb10⟩
 refine ⟨_, rfl, ?_⟩
 have hS := hS.eqv hb10
 refine Zp rfl (Zu rfl (Zp rfl (Zu rfl (Zp rfl (Zu rfl (Zi rfl (by omega) ?_))))))
 refine Zu rfl (gl_op rfl rfl rfl (op_slice_h hT el5 rfl rfl rfl rfl (by first | omega | (simp; omega)) (by first | omega | (simp; omega))) ?_)
 refine Zu rfl (Zp rfl (Zu rfl (gl_op rfl rfl rfl (op_slice_l hT el5 rfl rfl rfl rfl (by first | omega | (simp; omega)) (by first | omega | (simp; omega))) ?_)))
 refine Zu rfl (gl_lit hT hS el5 rfl rfl rfl rfl rfl rfl rfl rfl rfl fun g18 w18 hS => ?_)
 refine Zu rfl ?_
 have hdr := (hA.old hS).drop (k := l.length) (cap := c) (by omega) (by omega)
 rw [List.drop_left] at hdr
 refine gl_callf rfl rfl rfl rfl Tryz.func16 rfl rfl rfl (same8_calls _ _ _ _ _ _ mk5 mk5 _ hdr (by show _ = 5; omega) (hS.rdE (l := mk5) (i := 0) rfl) rfl rfl) ?_
 rintro _ w19 ⟨rfl, hb19⟩
 refine ⟨_, rfl, ?_⟩
 have hS := hS.eqv hb19
 refine Zp rfl (Zp rfl (gl_nil (hK3 _ _ (gc_ret (gk_ret1 rfl rfl ?_)))))
 exact ⟨rfl, hS.below⟩
end Go.Proofs.YtnomlloaahoceaaGreatDoor

/- What is read of bytes is small. No condition. -/
namespace Go.Proofs.YtnomlloaahoceaaGreatDoor
open Go.RowKit
set_option linter.unusedVariables false
set_option linter.unusedSimpArgs false
def Few (ls : List (List Nat)) : Prop := ls.length ≤ 1048576 ∧ ∀ x ∈ ls, x.length ≤ 1048576
theorem dpTail_p {l : List UInt8} {p q : Px} {tgt at_ : Int} (h : dpTail l p tgt at_ = .ok q) : q = p := by
 unfold dpTail at h
 split at h
 ·cases h
 split at h
 ·cases h
 injection h with h; exact h.symm
theorem dpNums_p {l : List UInt8} {p q : Px} {tgt at_ : Int} (h : dpNums l p tgt at_ = .ok q) : q.C = p.C ∧ q.G = p.G ∧ q.M = p.M := by
 unfold dpNums at h
 split at h
 ·cases h
 split at h
 ·cases h
 split at h
 ·cases h
 have := dpTail_p h
 subst this
 exact ⟨rfl, rfl, rfl⟩
theorem dpClaims_p {l : List UInt8} {p q : Px} {tgt : Int} : ∀ {k : Nat} {M : List (List Nat)} {at_ : Int}, dpClaims l p tgt k M at_ = .ok q → (∀ x ∈ M, x.length ≤ 1048576) → M.length + k ≤ 1048576 → q.C = p.C ∧ q.G = p.G ∧ Few q.M
 | 0, M, at_, h, h1, h2 => by
  have := dpNums_p (show dpNums l ⟨p.C, p.G, p.T, M, p.K, p.D, p.S⟩ tgt at_ = .ok q from h)
  exact ⟨this.1, this.2.1, by rw [this.2.2]; exact ⟨by show M.length ≤ _; omega, h1⟩⟩
 | k + 1, M, at_, h, h1, h2 => by
  unfold dpClaims at h
  split at h
  ·cases h
  split at h
  ·cases h
  split at h
  ·cases h
  rename_i m a hu hc us b hf
  refine dpClaims_p h (fun x hx => ?_) (by rw [List.length_append]; simp; omega)
  rcases List.mem_append.1 hx with hx | hx
  ·exact h1 x hx
  rw [List.mem_singleton.1 hx, (rFs_ok hf).1]
  omega
theorem dpM_p {l : List UInt8} {p q : Px} {tgt at_ : Int} (h : dpM l p tgt at_ = .ok q) : q.C = p.C ∧ q.G = p.G ∧ Few q.M := by
 unfold dpM at h
 split at h
 ·cases h
 split at h
 ·cases h
 rename_i c a hu hc
 exact dpClaims_p h (fun x hx => by cases hx) (by simp; omega)
theorem dpT_p {l : List UInt8} {p q : Px} {at_ : Int} (h : dpT l p at_ = .ok q) : q.C = p.C ∧ q.G = p.G ∧ Few q.M := by
 unfold dpT at h
 split at h
 ·cases h
 have h2 := dpM_p h
 exact h2
theorem dpRows_p {l : List UInt8} {p q : Px} (hC : p.C.length ≤ 1048576) : ∀ {k : Nat} {G : List (List Nat)} {at_ : Int}, dpRows l p k G at_ = .ok q → (∀ x ∈ G, x.length ≤ 1048576) → G.length + k ≤ 1048576 → q.C = p.C ∧ Few q.G ∧ Few q.M
 | 0, G, at_, h, h1, h2 => by
  have := dpT_p (show dpT l ⟨p.C, G, p.T, p.M, p.K, p.D, p.S⟩ at_ = .ok q from h)
  exact ⟨this.1, by rw [this.2.1]; exact ⟨by show G.length ≤ _; omega, h1⟩, this.2.2⟩
 | k + 1, G, at_, h, h1, h2 => by
  unfold dpRows at h
  split at h
  ·cases h
  rename_i us b hf
  refine dpRows_p hC h (fun x hx => ?_) (by rw [List.length_append]; simp; omega)
  rcases List.mem_append.1 hx with hx | hx
  ·exact h1 x hx
  rw [List.mem_singleton.1 hx, (rFs_ok hf).1]
  exact hC
theorem decPropV_few {l : List UInt8} {q : Px} (h : decPropV l = .ok q) : q.C.length ≤ 1048576 ∧ Few q.G ∧ Few q.M := by
 unfold decPropV at h
 split at h
 ·cases h
 unfold dpN at h
 split at h
 ·cases h
 split at h
 ·cases h
 split at h
 ·cases h
 rename_i n a hu hc C b hf
 have hl := (rFs_ok hf).1
 unfold dpG at h
 split at h
 ·cases h
 split at h
 ·cases h
 have h3 := dpRows_p (p := ⟨C, [], 0, [], 0, 0, 0⟩) (show C.length ≤ _ by omega) h (fun x hx => by cases hx) (by simp; omega)
 exact ⟨by rw [h3.1]; show C.length ≤ _; omega, h3.2⟩
theorem PrM.small {w : World} {ok : Nat → Prop} {C G M : Sv} {SG SM : List Sv} {p : Px} (D : PrM w ok C G M SG SM p) (h : p.C.length ≤ 1048576 ∧ Few p.G ∧ Few p.M) : p.small := by
 have hf : ∀ {A : Option Addr} {S : List Sv} {ls : List (List Nat)}, LsM w ok A S ls → ∀ x ∈ ls, ∀ u ∈ x, u < 18446744073709551616 := by
  intro A S ls hm x hx u hu
  obtain ⟨i, hi, rfl⟩ := List.mem_iff_getElem.1 hx
  have hl := hm.len
  exact (hm.rd i S[i] ls[i] (List.getElem?_eq_getElem (by omega)) (List.getElem?_eq_getElem hi)).2.2.2 u hu
 exact ⟨Nat.le_trans h.1 (by decide), D.fC, Nat.le_trans h.2.1.1 (by decide), fun x hx => ⟨Nat.le_trans (h.2.1.2 x hx) (by decide), hf D.rG x hx⟩, Nat.le_trans h.2.2.1 (by decide), fun x hx => ⟨Nat.le_trans (h.2.2.2 x hx) (by decide), hf D.rM x hx⟩, D.iT, D.iK, D.iD, D.iS⟩
theorem LsM.keepC {w w0 : World} {B : Nat} {L : List It} (hS : St B w0 w L) {i : Nat} {ok : Nat → Prop} {wk : World} (hi : L[i]? = some (.keep ok wk)) {A : Option Addr} {S : List Sv} {ls : List (List Nat)} (h : LsM wk ok A S ls) : LsM w ok A S ls :=
 ⟨hS.keepRd hi h.rS, h.len, fun j x l h1 h2 => ⟨hS.keepRd hi (h.rd j x l h1 h2).1, (h.rd j x l h1 h2).2⟩⟩
theorem PrM.keepC {w w0 : World} {B : Nat} {L : List It} (hS : St B w0 w L) {i : Nat} {ok : Nat → Prop} {wk : World} (hi : L[i]? = some (.keep ok wk)) {C G M : Sv} {SG SM : List Sv} {p : Px} (h : PrM wk ok C G M SG SM p) : PrM w ok C G M SG SM p :=
 ⟨hS.keepRd hi h.rC, h.nC, h.lC, h.fC, LsM.keepC hS hi h.rG, h.nG, h.lG, LsM.keepC hS hi h.rM, h.nM, h.lM, h.iT, h.iK, h.iD, h.iS⟩
theorem i64_0 : i64 0 := by unfold i64; omega
theorem px0_small : (⟨[], [], 0, [], 0, 0, 0⟩ : Px).small := ⟨by simp, by simp, by simp, by simp, by simp, by simp, i64_0, i64_0, i64_0, i64_0⟩
theorem nilRd {α : Type} {enc : α → Value} {w : World} {ok : Nat → Prop} : RdE w ok enc none ([] : List α) := RdE.nil w none
theorem px0_prM (w : World) (ok : Nat → Prop) : PrM w ok (none, 0, 0) (none, 0, 0) (none, 0, 0) [] [] ⟨[], [], 0, [], 0, 0, 0⟩ :=
 ⟨nilRd, rfl, by simp, by simp, ⟨nilRd, rfl, by simp⟩, rfl, by simp, ⟨nilRd, rfl, by simp⟩, rfl, by simp, i64_0, i64_0, i64_0, i64_0⟩
def toldP (l : List UInt8) : Px × Int × Int := match decPropV l with | .error (x, y) => (⟨[], [], 0, [], 0, 0, 0⟩, x, y) | .ok p => (p, 0, 0)
theorem dpR_one {l : List UInt8} {w w' : World} {e : Ending} (h : dpR l w e w') : ∃ C G M SG SM K, e = .returned (.tuple #[.agg ⟨propC C G M (toldP l).1⟩, .int .i64 (toldP l).2.1, .int .i64 (toldP l).2.2]) ∧ St w.heap.size w w' [.keep K w'] ∧ PrM w' K C G M SG SM (toldP l).1 ∧ (toldP l).1.small := by
 rcases h with ⟨x, y, hx, rfl, hb⟩ | ⟨p, C, G, M, SG, SM, K, hx, rfl, hS, hP⟩
 ·unfold toldP
  rw [hx]
  exact ⟨(none, 0, 0), (none, 0, 0), (none, 0, 0), [], [], _, rfl, ((St.start w).grown hb).keep0, px0_prM _ _, px0_small⟩
 unfold toldP
 rw [hx]
 exact ⟨C, G, M, SG, SM, K, rfl, hS, hP, hP.small (decPropV_few hx)⟩
end Go.Proofs.YtnomlloaahoceaaGreatDoor

/- Contracts: asks. No condition. -/
namespace Go.Proofs.YtnomlloaahoceaaGreatDoor
open Go.RowKit
set_option linter.unusedVariables false
set_option linter.unusedSimpArgs false
end Go.Proofs.YtnomlloaahoceaaGreatDoor

/- Our own words: an append onto bytes that were made of a text. No condition. -/
namespace Go.Proofs.YtnomlloaahoceaaGreatDoor
open Go.RowKit
set_option linter.unusedVariables false
set_option linter.unusedSimpArgs false
section
variable {P : Program} {N : Nt} {e : Env} {Q : Exit → Act → World → Prop} {w w0 w' : World} {T : TyTab} {B : Nat} {L : List It}
def ObjRow (X : It) (el : TypeId) (A : Option Addr) (c n : Nat) (cs : List Value) : Prop := ∃ g cur fz, X = .obj g (.cells cur el fz) ∧ A = some ⟨g, 0, none⟩ ∧ c = n ∧ cs.length = n ∧ cur.toList.take n = cs
theorem gl_appendRO {ops : Array Oper} {o : Oper} {rest : List Oper} {d : Nat} {t el : TypeId} {s x : Operand} {z : Value} {bytes : Nat} {A A2 : Option Addr} {c n m c2 : Nat} {xs news : List Value} {ok : Nat → Prop} (i : Nat) {X : It}
 (hT : TabOk P T) (hS : St B w0 w L) (hel : Elem P el z 1 bytes) (hr : Rd w ok A2 m 1 news) (h1 : allOne news = true)
 (hd : o.dst = some d) (hg : o.guard = none) (hN : Nat.ble (d + 1) N = true) (ho : o.op = .call { callee := .builtin .append, args := #[s, x], argTypes := #[t, t] })
 (ht : tlook T t = some (.slice el)) (hs : evO e s = some (.slice A n c)) (hx : evO e x = some (.slice A2 m c2)) (hi : L[i]? = some X) (hX : X = .row A c el 1 n xs ∨ (ObjRow X el A c n xs ∧ 0 < m))
 (hb : (n + m) * bytes ≤ 140737488355328) (hmax : n + m ≤ 9223372036854775807)
 (h : ∀ A' c' w', St B w0 w' (L.set i (.row A' c' el 1 (n + m) (xs ++ news))) → GL P N ops ((d, .slice A' (n + m) c') :: e) rest Q w') : GL P N ops e (o :: rest) Q w := by
 rcases hX with rfl | ⟨⟨g, cur, fz, rfl, rfl, rfl, hxl, htk⟩, hm⟩
 ·exact gl_append i hT hS hel hr h1 hd hg hN ho ht hs hx hi hb hmax h
 obtain ⟨j, hj, hz, hsz, hbb⟩ := hel.ex
 obtain ⟨ad, rfl, _, hc⟩ := hr.2 hm
 have hob : B ≤ g ∧ w.heap[g]? = some (.cells cur el fz) := hS.at hi
 have hcell : ∀ k u, xs[k]? = some u → w.cell? ((⟨g, 0, none⟩ : Addr).add k) = some u := by
  intro k u hk
  have hadd : (⟨g, 0, none⟩ : Addr).add k = ⟨g, k, none⟩ := by unfold Addr.add; split <;> simp_all
  rw [hadd, cell_of_row w g k cur el fz hob.2]
  rw [← htk, List.getElem?_take] at hk
  split at hk
  ·simpa using hk
  cases hk
 have hnx := nextslicecap_le (need := c + m) (old := c) (by omega)
 have hfit : Builtin.nextslicecap (c + m) c * j.bytes ≤ 281474976710656 := by
  rw [hbb]
  have := Nat.mul_le_mul_right bytes hnx
  have e : 2 * (c + m) * bytes = 2 * ((c + m) * bytes) := Nat.mul_assoc _ _ _
  omega
 have hlen : (xs ++ news).length = (c + m) * 1 := by rw [List.length_append, hxl, hr.1]; omega
 have hrun := run_append_grow (P := P) w t o.type el j z (hT.at ht) hj hz ⟨g, 0, none⟩ c c xs (by rw [hxl, hsz, Nat.mul_one]) hcell ad m c2 news (by rw [hr.1, hsz]) hc (by omega) (by omega) hfit
 have ho2 := grown_owns (P := P) hel w (n := B) (need := c + m) (olds := xs) (news := news) hlen hmax hS.size c
 obtain ⟨c', w2, hrun, ho2, k1, k2, k3, k4, k5⟩ : ∃ c' w2, (Builtin.append_ #[t, t] o.type #[.slice (some ⟨g, 0, none⟩) c c, .slice (some ad) m c2]).run P w = .ok (.slice (some ⟨w.heap.size, 0, none⟩) (c + m) c') w2 ∧ Owns w2 B (some ⟨w.heap.size, 0, none⟩) c' el 1 (c + m) (xs ++ news) ∧
  w2.os = w.os ∧ w2.tape = w.tape ∧ w2.output = w.output ∧ w.heap.size ≤ w2.heap.size ∧ ∀ k, k < w.heap.size → w2.heap[k]? = w.heap[k]? := ⟨_, _, hrun, ho2, rfl, rfl, rfl, by simp, fun k hk => Below.heap_alloc w.drew _ k hk⟩
 refine gl_step (v := .slice (some ⟨w.heap.size, 0, none⟩) (c + m) c') (w' := w2) hd (Nat.le_of_ble_eq_true hN) hg (fun a ha => ?_) (h _ _ w2 (hS.update hi k1 k2 k3 k4 (fun b hb hf => k5 b hb) ho2 ?_))
 ·simp only [execOp, ho, resolve, invoke, builtin, Sem.run_bind, Sem.run_pure, Result.andThen_ok, List.map_toArray, List.map_cons, List.map_nil, ha.eval hs, ha.eval hx, hrun]
 rintro b ⟨a, ha, rfl⟩
 injection ha with ha
 subst ha
 exact .inr (Nat.le_refl _)
end
end Go.Proofs.YtnomlloaahoceaaGreatDoor

/- Contracts of package code: what is written. No condition. -/
namespace Go.Proofs.YtnomlloaahoceaaGreatDoor
open Go.RowKit
set_option linter.unusedVariables false
set_option linter.unusedSimpArgs false
def encs (vs : List Int) : List UInt8 := (vs.map fun v => (uintV v).1).flatten
def encf (us : List Nat) : List UInt8 := (us.map fun u => (floatV u).1).flatten
theorem uintV_le {v : Int} (h : v ≤ 9223372036854775807) : (uintV v).1.length ≤ 9 := by
 unfold uintV
 split
 ·exact Nat.zero_le _
 exact encU_len 8 _ (by have : (128 : Nat) ^ (8 + 1) = 9223372036854775808 := by decide
                        omega)
theorem encU_pos (n : Nat) : 0 < (encU n).length := by
 by_cases h : n < 128
 ·rw [encU_small h]; exact Nat.zero_lt_one
 rw [encU_big h]; exact Nat.succ_pos _
theorem uintV_pos {v : Int} (h : 0 ≤ v) : 0 < (uintV v).1.length := by
 unfold uintV
 rw [if_neg (by omega)]
 exact encU_pos _
theorem floatV_le (u : Nat) : (floatV u).1.length ≤ 8 := by
 unfold floatV
 split
 ·exact Nat.zero_le _
 show (leB u 8).length ≤ 8
 simp [leB]
theorem encs_snoc (vs : List Int) (v : Int) : encs (vs ++ [v]) = encs vs ++ (uintV v).1 := by simp [encs]
theorem encf_snoc (vs : List Nat) (v : Nat) : encf (vs ++ [v]) = encf vs ++ (floatV v).1 := by simp [encf]
theorem encs_le : ∀ (vs : List Int), (∀ v ∈ vs, v ≤ 9223372036854775807) → (encs vs).length ≤ 9 * vs.length
 | [], _ => by simp [encs]
 | v :: r, h => by
  have h1 := encs_le r fun x hx => h x (.tail _ hx)
  have h2 := uintV_le (h v (.head _))
  have : encs (v :: r) = (uintV v).1 ++ encs r := by simp [encs]
  rw [this, List.length_append, List.length_cons]
  omega
theorem encf_le : ∀ (vs : List Nat), (encf vs).length ≤ 8 * vs.length
 | [] => by simp [encf]
 | v :: r => by
  have h1 := encf_le r
  have h2 := floatV_le v
  have : encf (v :: r) = (floatV v).1 ++ encf r := by simp [encf]
  rw [this, List.length_append, List.length_cons]
  omega
set_option maxRecDepth 100000 in
theorem putUint_calls {B : Nat} {w0 : World} (g : Nat) (bt : TypeId) (A : Option Addr) (c : Nat) (l : List UInt8) (at_ : Int) (cs : List Value) (L : List It) (A2 : Option Addr) (c2 n2 : Nat) (vs : List Int) (w : World)
 {X0 : It} (hS0 : St B w0 w (.blk g bt (cuC A l.length c at_ cs) :: X0 :: L)) (hX0 : X0 = .row A c 5 1 l.length (l.map uB) ∨ (ObjRow X0 5 A c l.length (l.map uB) ∧ ∃ v r, vs = v :: r ∧ 0 ≤ v)) {ok : Nat → Prop} (hv : ∀ {w1 : World} {X Y : It}, St B w0 w1 (X :: Y :: L) → RdE w1 ok iV A2 vs) (hn2 : n2 = vs.length) (hl : l.length + 9 * vs.length ≤ 137438953472) (hvs : ∀ v ∈ vs, v ≤ 9223372036854775807) :
 Calls Tryz.prog 39 ⟨[.pointer (some ⟨g, 0, none⟩), .slice A2 n2 c2]⟩ w fun en w' => en = .returned (.tuple #[]) ∧ ∃ A' c', St B w0 w' (.blk g bt (cuC A' (l ++ encs vs).length c' at_ cs) :: .row A' c' 5 1 (l ++ encs vs).length ((l ++ encs vs).map uB) :: L) := by
 subst hn2
 refine gc_enter (N := 29) Tryz.func39 rfl rfl rfl [(0, _), (1, _)] rfl ?_
 have hS := St.start w
 have hS := hS0
 refine gc_seq fun K1 hK1 => gc_region (Zp rfl (Zp rfl (Zp rfl (gl_nil (hK1 _ _ (gc_block ?_))))))
 refine gc_loop (fun kk a' w' => ∃ (i : Nat) (m : List UInt8) (A' : Option Addr) (c' : Nat) (X : It), Fr 29 a' [(0, .pointer (some ⟨g, 0, none⟩)), (8, .slice A2 vs.length c2), (9, .int .i64 (vs.length : Nat)), (10, .int .i64 (i : Nat))] ∧ i ≤ vs.length ∧ kk = vs.length + 1 - i ∧ m = l ++ encs (vs.take i) ∧
  (X = .row A' c' 5 1 m.length (m.map uB) ∨ (ObjRow X 5 A' c' m.length (m.map uB) ∧ i = 0 ∧ ∃ v r, vs = v :: r ∧ 0 ≤ v)) ∧ St B w0 w' (.blk g bt (cuC A' m.length c' at_ cs) :: X :: L)) (vs.length + 1) ?_ ?_ ?_
 ·intro a' ha; exact ⟨0, l, A, c, X0, ha.sub ⟨rfl, rfl, rfl, rfl, trivial⟩, by omega, by omega, by simp [encs], hX0.imp id (fun h => ⟨h.1, rfl, h.2⟩), hS⟩
 ·rintro a' w' ⟨i, _, _, _, _, _, h1, h2, _⟩; omega
 clear hS
 rintro kk a' w1 ⟨i, m, A', c', X, hF, hi, hk, hm, hX, hS⟩
 refine gc_of hF ?_
 clear hF
 refine gc_seq fun K2 hK2 => gc_region (Zp rfl (gl_nil (hK2 _ _ (gc_seq fun K3 hK3 => gc_cond rfl rfl (fun c11 => ?_) (fun c11 => ?_)))))
 ·simp only [NN, reduceCtorEq] at c11
  refine gc_skip (hK3 _ _ (gc_seq fun K4 hK4 => gc_block (gc_seq fun K5 hK5 => gc_region ?_)))
  have hil : i < vs.length := by omega
  obtain ⟨v, hv1⟩ : ∃ v, vs[i]? = some v := ⟨_, List.getElem?_eq_getElem hil⟩
  have htk : vs.take (i + 1) = vs.take i ++ [v] := by rw [List.take_add_one, hv1]; rfl
  have hvm := hvs v (List.mem_of_getElem? hv1)
  obtain ⟨ad, hA, hc⟩ := (hv hS).at 0 (i := (i : Int)) (by omega) (by omega)
  have hug : vs.getD ((i : Int)).toNat 0 = v := by rw [Int.toNat_natCast, List.getD_eq_getElem?_getD, hv1]; rfl
  rw [hug] at hc
  have hml : m.length ≤ l.length + 9 * i := by
   have := encs_le (vs.take i) fun x hx => hvs x (List.mem_of_mem_take hx)
   rw [hm, List.length_append]
   rw [List.length_take] at this
   omega
  have hul := uintV_le hvm
  refine gl_op rfl rfl rfl (op_indexAddr hT rfl rfl el3.cellsOf.1 el3.cellsOf.2 rfl rfl (by omega) (by omega) hA) ?_
  refine gl_op rfl rfl rfl (op_load hT rfl rfl rfl rfl hc) ?_
  refine Zp rfl (gl_nil (hK5 _ _ (gc_seq fun K6 hK6 => gc_region (Zp rfl (gl_callf rfl rfl rfl rfl Tryz.func71 rfl rfl rfl (Uint_calls v hvm _) ?_)))))
  rintro _ w16 ⟨A16, c16, rfl, hr16, hb16⟩
  refine ⟨_, rfl, ?_⟩
  have hS := (hS.addRow hb16 hr16).moveIn 2
  refine Zp rfl (Zp rfl (Zp rfl (Zp rfl (Zp rfl (gl_nil (hK6 _ _ (gc_region (Zp rfl (Zp rfl (Zp rfl (Zf 0 Tryz.underlying61 rfl el22 (Zb 0 hS rfl (Zp rfl ?_)))))))))))))
  have hX2 : X = .row A' c' 5 1 m.length (m.map uB) ∨ (ObjRow X 5 A' c' m.length (m.map uB) ∧ 0 < (uintV v).1.length) := hX.imp id fun h => by
   obtain ⟨h1, h2, v', r, h3, h4⟩ := h
   subst h2
   rw [h3] at hv1
   injection hv1 with hv1
   subst hv1
   exact ⟨h1, uintV_pos h4⟩
  refine gl_appendRO 1 hT hS el5 (hS.rd (i := 2) rfl) (allOne_map (fun _ => rfl) _) rfl rfl rfl rfl rfl rfl rfl rfl hX2 (by omega) (by omega) fun A25 c25 w25 hS => ?_
  refine Zp rfl (Zf 0 Tryz.underlying61 rfl el22 (gl_store 0 hS el22.cellsOf.1 el22.cellsOf.2 rfl rfl rfl rfl rfl rfl rfl rfl fun w_100 hS => ?_))
  refine gl_nil (hK4 _ _ (gc_region (Zi rfl (by omega) ?_)))
  refine Zp rfl (gl_nil ?_)
  intro a' ha
  refine ⟨i + 1, m ++ (uintV v).1, A25, c25, _, ha.sub ⟨rfl, rfl, rfl, rfl, trivial⟩, by omega, by omega, ?_, .inl rfl, ?_⟩
  ·rw [hm, htk, encs_snoc, List.append_assoc]
  rw [List.length_append, List.map_append]
  exact hS.erase 2
 simp only [NN, reduceCtorEq] at c11
 refine gc_exit ?_
 simp only [x_then_exit, x_block_exit, ↓reduceIte]
 refine gk_end0 rfl ?_
 have hie : i = vs.length := by omega
 subst hie
 rw [List.take_length] at hm
 subst hm
 rcases hX with rfl | ⟨_, h2, v', r, h3, _⟩
 ·exact ⟨rfl, A', c', hS⟩
 rw [h3] at h2
 cases h2
set_option maxRecDepth 100000 in
theorem putFloats_calls {B : Nat} {w0 : World} (g : Nat) (bt : TypeId) (A : Option Addr) (c : Nat) (l : List UInt8) (at_ : Int) (cs : List Value) (L : List It) (A2 : Option Addr) (c2 n2 : Nat) (vs : List Nat) (w : World)
 (hS0 : St B w0 w (.blk g bt (cuC A l.length c at_ cs) :: .row A c 5 1 l.length (l.map uB) :: L)) {ok : Nat → Prop} (hv : ∀ {w1 : World} {X Y : It}, St B w0 w1 (X :: Y :: L) → RdE w1 ok fV A2 vs) (hn2 : n2 = vs.length) (hl : l.length + 8 * vs.length ≤ 137438953472) (hvs : ∀ v ∈ vs, v < 18446744073709551616) :
 Calls Tryz.prog 42 ⟨[.pointer (some ⟨g, 0, none⟩), .slice A2 n2 c2]⟩ w fun en w' => en = .returned (.tuple #[]) ∧ ∃ A' c', St B w0 w' (.blk g bt (cuC A' (l ++ encf vs).length c' at_ cs) :: .row A' c' 5 1 (l ++ encf vs).length ((l ++ encf vs).map uB) :: L) := by
 subst hn2
 refine gc_enter (N := 29) Tryz.func42 rfl rfl rfl [(0, _), (1, _)] rfl ?_
 have hS := St.start w
 have hS := hS0
 refine gc_seq fun K1 hK1 => gc_region (Zp rfl (Zp rfl (Zp rfl (gl_nil (hK1 _ _ (gc_block ?_))))))
 refine gc_loop (fun kk a' w' => ∃ (i : Nat) (m : List UInt8) (A' : Option Addr) (c' : Nat), Fr 29 a' [(0, .pointer (some ⟨g, 0, none⟩)), (8, .slice A2 vs.length c2), (9, .int .i64 (vs.length : Nat)), (10, .int .i64 (i : Nat))] ∧ i ≤ vs.length ∧ kk = vs.length + 1 - i ∧ m = l ++ encf (vs.take i) ∧
  St B w0 w' (.blk g bt (cuC A' m.length c' at_ cs) :: .row A' c' 5 1 m.length (m.map uB) :: L)) (vs.length + 1) ?_ ?_ ?_
 ·intro a' ha; exact ⟨0, l, A, c, ha.sub ⟨rfl, rfl, rfl, rfl, trivial⟩, by omega, by omega, by simp [encf], hS⟩
 ·rintro a' w' ⟨i, _, _, _, _, h1, h2, _⟩; omega
 clear hS
 rintro kk a' w1 ⟨i, m, A', c', hF, hi, hk, hm, hS⟩
 refine gc_of hF ?_
 clear hF
 refine gc_seq fun K2 hK2 => gc_region (Zp rfl (gl_nil (hK2 _ _ (gc_seq fun K3 hK3 => gc_cond rfl rfl (fun c11 => ?_) (fun c11 => ?_)))))
 ·simp only [NN, reduceCtorEq] at c11
  refine gc_skip (hK3 _ _ (gc_seq fun K4 hK4 => gc_block (gc_seq fun K5 hK5 => gc_region ?_)))
  have hil : i < vs.length := by omega
  obtain ⟨v, hv1⟩ : ∃ v, vs[i]? = some v := ⟨_, List.getElem?_eq_getElem hil⟩
  have htk : vs.take (i + 1) = vs.take i ++ [v] := by rw [List.take_add_one, hv1]; rfl
  have hvm := hvs v (List.mem_of_getElem? hv1)
  obtain ⟨ad, hA, hc⟩ := (hv hS).at 0 (i := (i : Int)) (by omega) (by omega)
  have hug : vs.getD ((i : Int)).toNat 0 = v := by rw [Int.toNat_natCast, List.getD_eq_getElem?_getD, hv1]; rfl
  rw [hug] at hc
  have hml : m.length ≤ l.length + 8 * i := by
   have := encf_le (vs.take i)
   rw [hm, List.length_append]
   rw [List.length_take] at this
   omega
  have hul := floatV_le v
  refine gl_op rfl rfl rfl (op_indexAddr hT rfl rfl el44.cellsOf.1 el44.cellsOf.2 rfl rfl (by omega) (by omega) hA) ?_
  refine gl_op rfl rfl rfl (op_load hT rfl rfl rfl rfl hc) ?_
  refine Zp rfl (gl_nil (hK5 _ _ (gc_seq fun K6 hK6 => gc_region (Zp rfl (gl_callf rfl rfl rfl rfl Tryz.func72 rfl rfl rfl (Float_calls v hvm _) ?_)))))
  rintro _ w16 ⟨A16, c16, rfl, hr16, hb16⟩
  refine ⟨_, rfl, ?_⟩
  have hS := (hS.addRow hb16 hr16).moveIn 2
  refine Zp rfl (Zp rfl (Zp rfl (Zp rfl (Zp rfl (gl_nil (hK6 _ _ (gc_region (Zp rfl (Zp rfl (Zp rfl (Zf 0 Tryz.underlying61 rfl el22 (Zb 0 hS rfl (Zp rfl (gl_append 1 hT hS el5 (hS.rd (i := 2) rfl) (allOne_map (fun _ => rfl) _) rfl rfl rfl rfl rfl rfl rfl rfl (by first | omega | (simp; omega)) (by first | omega | (simp; omega)) fun A25 c25 w25 hS => ?_))))))))))))))
  refine Zp rfl (Zf 0 Tryz.underlying61 rfl el22 (gl_store 0 hS el22.cellsOf.1 el22.cellsOf.2 rfl rfl rfl rfl rfl rfl rfl rfl fun w_107 hS => ?_))
  refine gl_nil (hK4 _ _ (gc_region (Zi rfl (by omega) ?_)))
  refine Zp rfl (gl_nil ?_)
  intro a' ha
  refine ⟨i + 1, m ++ (floatV v).1, A25, c25, ha.sub ⟨rfl, rfl, rfl, rfl, trivial⟩, by omega, by omega, ?_, ?_⟩
  ·rw [hm, htk, encf_snoc, List.append_assoc]
  rw [List.length_append, List.map_append]
  exact hS.erase 2
 simp only [NN, reduceCtorEq] at c11
 refine gc_exit ?_
 simp only [x_then_exit, x_block_exit, ↓reduceIte]
 refine gk_end0 rfl ?_
 have hie : i = vs.length := by omega
 subst hie
 rw [List.take_length] at hm
 subst hm
 exact ⟨rfl, A', c', hS⟩
end Go.Proofs.YtnomlloaahoceaaGreatDoor

/- Contracts of package code: a question's bytes. No condition. -/
namespace Go.Proofs.YtnomlloaahoceaaGreatDoor
open Go.RowKit
set_option linter.unusedVariables false
set_option linter.unusedSimpArgs false
theorem listV_0 {l : List Nat} {n : Int} (h : listV l n = 0) : (l.length : Int) = n := by
 unfold listV at h
 split at h
 ·cases h
 omega
theorem listsGo_0 {n : Int} : ∀ {ls : List (List Nat)} {at_ : Int}, (listsGo n at_ ls).1 = 0 → ∀ x ∈ ls, (x.length : Int) = n
 | [], _, _, x, hx => by cases hx
 | l :: ls, at_, h, x, hx => by
  unfold listsGo at h
  split at h
  ·rename_i h1; exact absurd h h1
  rename_i h1
  rcases List.mem_cons.1 hx with rfl | hx
  ·exact listV_0 (by omega)
  exact listsGo_0 h x hx
structure Fine (p : Px) : Prop where
 C : p.C.length ≤ 256
 G : p.G.length ≤ 256 ∧ ∀ x ∈ p.G, x.length ≤ 256
 M : p.M.length ≤ 64 ∧ ∀ x ∈ p.M, x.length ≤ 257
 T : -1 ≤ p.T ∧ p.T ≤ 256
 K : p.K ≤ 8
 D : p.D ≤ 8
 S : p.S ≤ 1024
 z : (formV p).2 = 0
theorem formV_0 {p : Px} (h : (formV p).1 = 0) : Fine p := by
 unfold formV at h
 split at h
 ·cases h
 rename_i hC
 generalize hout : leastV p = out at h
 have hz : (formV p).2 = (propV p p.C.length out).2 := by unfold formV; rw [if_neg hC, hout]
 unfold propV at h hz
 split at h
 ·cases h
 rename_i h1
 split at h
 ·rename_i h2; exact absurd h h2
 rename_i h2
 split at h
 ·cases h
 rename_i h3
 split at h
 ·rename_i h4; exact absurd h h4
 rename_i h4
 split at h
 ·cases h
 rename_i h5
 split at h
 ·cases h
 rename_i h6
 split at h
 ·rename_i h7; exact absurd h h7
 rename_i h7
 split at h
 ·cases h
 rename_i h8
 split at h
 ·cases h
 rename_i h9
 rw [if_neg h1, if_neg h2, if_neg h3, if_neg h4, if_neg h5, if_neg h6, if_neg h7, if_neg h8, if_neg h9] at hz
 refine ⟨by omega, ⟨by omega, fun x hx => ?_⟩, ⟨by omega, fun x hx => ?_⟩, by omega, by omega, by omega, by omega, hz⟩
 ·have := listsGo_0 (Decidable.not_not.1 h4) x hx; omega
 have := listsGo_0 (Decidable.not_not.1 h7) x hx; omega
def encG (ls : List (List Nat)) : List UInt8 := (ls.map encf).flatten
def encM (ls : List (List Nat)) : List UInt8 := (ls.map fun m => encs [(m.length : Int)] ++ encf m).flatten
theorem encG_snoc (ls : List (List Nat)) (x : List Nat) : encG (ls ++ [x]) = encG ls ++ encf x := by simp [encG]
theorem encM_snoc (ls : List (List Nat)) (x : List Nat) : encM (ls ++ [x]) = encM ls ++ (encs [(x.length : Int)] ++ encf x) := by simp [encM]
theorem encG_le {k : Nat} : ∀ (ls : List (List Nat)), (∀ x ∈ ls, x.length ≤ k) → (encG ls).length ≤ 8 * k * ls.length
 | [], _ => by simp [encG]
 | x :: r, h => by
  have h1 := encG_le r fun y hy => h y (.tail _ hy)
  have h2 := encf_le x
  have h3 := h x (.head _)
  have : encG (x :: r) = encf x ++ encG r := by simp [encG]
  rw [this, List.length_append, List.length_cons, Nat.mul_add]
  omega
theorem encs1_le (n : Nat) (h : n ≤ 1048576) : (encs [(n : Int)]).length ≤ 9 := by
 have := encs_le [(n : Int)] (fun v hv => by rw [List.mem_singleton.1 hv]; omega)
 simpa using this
theorem encM_le : ∀ (ls : List (List Nat)), (∀ x ∈ ls, x.length ≤ 257) → (encM ls).length ≤ 2065 * ls.length
 | [], _ => by simp [encM]
 | x :: r, h => by
  have h1 := encM_le r fun y hy => h y (.tail _ hy)
  have h2 := encf_le x
  have h3 := h x (.head _)
  have h4 := encs1_le x.length (by omega)
  have : encM (x :: r) = encs [(x.length : Int)] ++ encf x ++ encM r := by simp [encM]
  rw [this, List.length_append, List.length_append, List.length_cons, Nat.mul_add]
  omega
def hdP : List UInt8 := [65, 77, 66, 80, 1]
def encP1 (p : Px) : List UInt8 := hdP ++ encs [(p.C.length : Int)] ++ encf p.C ++ encs [(p.G.length : Int)]
def encP2 (p : Px) : List UInt8 := encP1 p ++ encG p.G ++ encs [p.T + 1, (p.M.length : Int)]
def encP (p : Px) : List UInt8 := encP2 p ++ encM p.M ++ encs [p.K, p.D, p.S]
def encPV (p : Px) : List UInt8 := if (formV p).1 ≠ 0 then [] else encP p ++ le4 (crcV (encP p))
theorem encP1_le {p : Px} (h : Fine p) : (encP1 p).length ≤ 2100 := by
 have h1 := encs1_le p.C.length (by have := h.C; omega)
 have h2 := encs1_le p.G.length (by have := h.G.1; omega)
 have h3 := encf_le p.C
 have := h.C
 unfold encP1 hdP
 simp only [List.length_append, List.length_cons, List.length_nil]
 omega
theorem encP2_le {p : Px} (h : Fine p) : (encP2 p).length ≤ 530000 := by
 have h1 := encP1_le h
 have h2 := encG_le p.G h.G.2
 have h3 := encs_le [p.T + 1, (p.M.length : Int)] (fun v hv => by
  have := h.T
  have := h.M.1
  rcases List.mem_cons.1 hv with rfl | hv
  ·omega
  rw [List.mem_singleton.1 hv]; omega)
 have := h.G.1
 unfold encP2
 simp only [List.length_append, List.length_cons, List.length_nil] at h3 ⊢
 omega
theorem encP_le {p : Px} (h : Fine p) : (encP p).length ≤ 700000 := by
 have h1 := encP2_le h
 have h2 := encM_le p.M h.M.2
 have h3 := encs_le [p.K, p.D, p.S] (fun v hv => by
  have := h.K
  have := h.D
  have := h.S
  rcases List.mem_cons.1 hv with rfl | hv
  ·omega
  rcases List.mem_cons.1 hv with rfl | hv
  ·omega
  rw [List.mem_singleton.1 hv]; omega)
 have := h.M.1
 unfold encP
 simp only [List.length_append, List.length_cons, List.length_nil] at h3 ⊢
 omega
theorem mem2 {a b k : Int} (h1 : a ≤ k) (h2 : b ≤ k) : ∀ v ∈ [a, b], v ≤ k := fun v hv => by
 rcases List.mem_cons.1 hv with rfl | hv
 ·exact h1
 rw [List.mem_singleton.1 hv]; exact h2
theorem mem3 {a b c k : Int} (h1 : a ≤ k) (h2 : b ≤ k) (h3 : c ≤ k) : ∀ v ∈ [a, b, c], v ≤ k := fun v hv => by
 rcases List.mem_cons.1 hv with rfl | hv
 ·exact h1
 exact mem2 h2 h3 v hv
set_option maxHeartbeats 4000000 in
set_option maxRecDepth 100000 in
theorem encodeProp_calls (C G M : Sv) (SG SM : List Sv) (p : Px) (w : World) {ok : Nat → Prop} (D : PrM w ok C G M SG SM p) :
 Calls Tryz.prog 14 ⟨[.agg ⟨propC C G M p⟩]⟩ w fun e w' => ∃ A c, e = .returned (.tuple #[.slice A (encPV p).length c, .int .i64 (formV p).1, .int .i64 (formV p).2]) ∧ St w.heap.size w w' [.row A c 5 1 (encPV p).length ((encPV p).map uB)] := by
 have hnC := D.nC
 have hnG := D.nG
 have hnM := D.nM
 obtain ⟨C1, C2, C3⟩ := C
 obtain ⟨G1, G2, G3⟩ := G
 obtain ⟨M1, M2, M3⟩ := M
 simp only at hnC hnG hnM
 subst hnC
 subst hnG
 subst hnM
 have hGl := D.rG.len
 have hMl := D.rM.len
 refine gc_enter (N := 96) Tryz.func14 rfl rfl rfl [(0, _)] rfl ?_
 have hS := St.start w
 refine gc_seq fun K1 hK1 => gc_region (gl_box hS rfl rfl rfl rfl rfl fun g1 w1 hS => ?_)
 refine Zp rfl (Zp rfl (Zp rfl (gl_nil (hK1 _ _ (gc_seq fun K2 hK2 => gc_seq fun K3 hK3 => gc_region (Zg 0 Tryz.underlying53 el53 hS rfl (gl_callf rfl rfl rfl rfl Tryz.func45 rfl rfl rfl (checkForm_calls _ _ _ SG SM p _ (D.old hS)) ?_)))))))
 rintro _ w14 ⟨rfl, hb14⟩
 refine ⟨_, rfl, ?_⟩
 have hS := hS.grown hb14
 refine Zp rfl (Zp rfl (Zp rfl (Zp rfl (Zp rfl (gl_nil (hK3 _ _ (gc_seq fun K4 hK4 => gc_region (Zp rfl (Zp rfl (gl_nil (hK4 _ _ (gc_cond rfl rfl (fun c18 => ?_) (fun c18 => ?_)))))))))))))
 ·simp only [NN, reduceCtorEq] at c18
  have hz : encPV p = [] := by unfold encPV; rw [if_pos (by omega)]
  refine gc_seq fun K5 hK5 => gc_region (Zp rfl (Zp rfl (Zp rfl (Zp rfl (Zp rfl (gl_nil (hK5 _ _ (gc_ret ?_))))))))
  simp only [XR]
  refine gk_ret3 rfl rfl rfl rfl ?_
  rw [hz]
  exact ⟨none, 0, rfl, (hS.nil 5 1).erase 0⟩
 simp only [NN, reduceCtorEq] at c18
 have hf := formV_0 (by omega : (formV p).1 = 0)
 have hfz : (formV p).1 = 0 := by omega
 have hfT := hf.T
 have hfG := hf.G.1
 have hfM := hf.M.1
 have hfC := hf.C
 refine gc_skip (hK2 _ _ (gc_cut (fun a w' => ∃ gc A c l X, Fr 96 a [(1, .pointer (some ⟨g1, 0, none⟩)), (7, .pointer (some ⟨gc, 0, none⟩))] ∧ l = hdP ∧ ObjRow X 5 A c l.length (l.map uB) ∧ St w.heap.size w w' [.blk gc 61 (cuC A (l).length c 0 []), X, .blk g1 53 (propC (C1, p.C.length, C3) (G1, p.G.length, G3) (M1, p.M.length, M3) p)]) ?_ ?_))
 ·refine gc_region (gl_lit hT hS el5 rfl rfl rfl rfl rfl rfl rfl rfl rfl fun g21 w21 hS => ?_)
  refine gl_mark 1 hT hS rfl rfl rfl rfl rfl rfl rfl rfl fun w22 cur22 fz22 hcur22 hS => ?_
  refine gl_op rfl rfl rfl (op_buildG rfl plan61 rfl rfl) ?_
  refine gl_box hS rfl rfl rfl rfl rfl fun g24 w24 hS => ?_
  refine Zp rfl (gl_nil ?_)
  intro a ha
  exact ⟨g24, _, _, hdP, _, ha.sub ⟨rfl, rfl, trivial⟩, rfl, ⟨_, _, _, rfl, rfl, rfl, rfl, hcur22⟩, hS.permute (p_cba _ _ _)⟩
 rintro a w1 ⟨gc, A, c, l, X, hF, hl, hX, hS⟩
 refine gc_of hF ?_
 clear hF
 have hll : l.length = 5 := by rw [hl]; rfl
 refine gc_seq fun K6 hK6 => gc_region (Zp rfl (Zf 0 Tryz.underlying53 rfl el45 (Zb 2 hS rfl (Zp rfl (gl_lit hT hS el3 rfl rfl rfl rfl rfl rfl rfl rfl rfl fun g29 w29 hS => ?_)))))
 refine gl_callf rfl rfl rfl rfl Tryz.func39 rfl rfl rfl (putUint_calls gc _ A c (l) 0 [] _ _ _ 1 ([(p.C.length : Int)]) _ hS (.inr ⟨hX, _, _, rfl, by omega⟩) (fun hS => hS.rdE (i := 3) rfl) rfl (by simp; omega) (fun v hv => by rw [List.mem_singleton.1 hv]; omega)) ?_
 rintro _ w30 ⟨rfl, A, c, hS⟩
 refine ⟨_, rfl, ?_⟩
 have hS := hS.erase 3
 refine gl_nil (hK6 _ _ (gc_seq fun K7 hK7 => gc_region (Zp rfl (Zf 0 Tryz.underlying53 rfl el45 (Zb 2 hS rfl (gl_callf rfl rfl rfl rfl Tryz.func42 rfl rfl rfl (putFloats_calls gc _ A c (l ++ encs [(p.C.length : Int)]) 0 [] _ _ _ p.C.length (p.C) _ hS (fun hS => D.rC.old hS) rfl (by have := encs1_le p.C.length (by omega); rw [List.length_append]; omega) (D.fC)) ?_))))))
 rintro _ w34 ⟨rfl, A, c, hS⟩
 refine ⟨_, rfl, ?_⟩
 refine gl_nil (hK7 _ _ (gc_seq fun K8 hK8 => gc_region (Zp rfl (Zf 1 Tryz.underlying53 rfl el51 (Zb 2 hS rfl (Zp rfl (gl_lit hT hS el3 rfl rfl rfl rfl rfl rfl rfl rfl rfl fun g39 w39 hS => ?_)))))))
 refine gl_callf rfl rfl rfl rfl Tryz.func39 rfl rfl rfl (putUint_calls gc _ A c (l ++ encs [(p.C.length : Int)] ++ encf p.C) 0 [] _ _ _ 1 ([(p.G.length : Int)]) _ hS (.inl rfl) (fun hS => hS.rdE (i := 3) rfl) rfl (by have := encs1_le p.C.length (by omega); have := encf_le p.C; simp only [List.length_append, List.length_cons, List.length_nil]; omega) (fun v hv => by rw [List.mem_singleton.1 hv]; omega)) ?_
 rintro _ w40 ⟨rfl, A, c, hS⟩
 refine ⟨_, rfl, ?_⟩
 have hS := hS.erase 3
 have hl1 : l ++ encs [(p.C.length : Int)] ++ encf p.C ++ encs [(p.G.length : Int)] = encP1 p := by rw [hl]; rfl
 rw [hl1] at hS
 clear hl1 hl hll
 refine gl_nil (hK8 _ _ (gc_seq fun K9 hK9 => gc_seq fun K10 hK10 => gc_region (Zf 1 Tryz.underlying53 rfl el51 (Zb 2 hS rfl (Zp rfl (Zp rfl (gl_nil (hK10 _ _ (gc_block ?_)))))))))
 refine gc_loop (fun kk a' w' => ∃ (i : Nat) (m : List UInt8) (A : Option Addr) (c : Nat), Fr 96 a' [(1, .pointer (some ⟨g1, 0, none⟩)), (7, .pointer (some ⟨gc, 0, none⟩)), (42, .slice G1 p.G.length G3), (43, .int .i64 (p.G.length : Nat)), (44, .int .i64 (i : Nat))] ∧ i ≤ p.G.length ∧ kk = p.G.length + 1 - i ∧ m = encP1 p ++ encG (p.G.take i) ∧
  St w.heap.size w w' [.blk gc 61 (cuC A (m).length c 0 []), .row A c 5 1 (m).length ((m).map uB), .blk g1 53 (propC (C1, p.C.length, C3) (G1, p.G.length, G3) (M1, p.M.length, M3) p)]) (p.G.length + 1) ?_ ?_ ?_
 ·intro a' ha; exact ⟨0, encP1 p, A, c, ha.sub ⟨rfl, rfl, rfl, rfl, rfl, trivial⟩, by omega, by omega, by simp [encG], hS⟩
 ·rintro a' w' ⟨i, _, _, _, _, h1, h2, _⟩; omega
 clear hS
 rintro kk a' w1 ⟨i, m, A, c, hF, hi, hk, hm, hS⟩
 refine gc_of hF ?_
 clear hF
 have hml : m.length ≤ 530000 := by
  have h1 := encP1_le hf
  have h2 := encG_le (k := 256) (p.G.take i) fun x hx => hf.G.2 x (List.mem_of_mem_take hx)
  rw [List.length_take] at h2
  rw [hm, List.length_append]
  omega
 refine gc_seq fun K11 hK11 => gc_region (Zp rfl (gl_nil (hK11 _ _ (gc_seq fun K12 hK12 => gc_cond rfl rfl (fun c45 => ?_) (fun c45 => ?_)))))
 ·simp only [NN, reduceCtorEq] at c45
  refine gc_skip (hK12 _ _ (gc_seq fun K13 hK13 => gc_block (gc_seq fun K14 hK14 => gc_region ?_)))
  have hiG : i < p.G.length := by omega
  obtain ⟨x, hx⟩ : ∃ x, p.G[i]? = some x := ⟨_, List.getElem?_eq_getElem hiG⟩
  obtain ⟨y, hy⟩ : ∃ y, SG[i]? = some y := ⟨_, List.getElem?_eq_getElem (by omega)⟩
  have hxy := D.rG.rd i y x hy hx
  have hx256 := hf.G.2 x (List.mem_of_getElem? hx)
  have htk : p.G.take (i + 1) = p.G.take i ++ [x] := by rw [List.take_add_one, hx]; rfl
  obtain ⟨ad, hA, hcl⟩ := (D.rG.rS.old hS).at (none, 0, 0) (i := (i : Int)) (by omega) (by omega)
  have hug : SG.getD ((i : Int)).toNat (none, 0, 0) = y := by rw [Int.toNat_natCast, List.getD_eq_getElem?_getD, hy]; rfl
  rw [hug] at hcl
  obtain ⟨y1, y2, y3⟩ := y
  obtain ⟨hxy1, hxy2, hxy3⟩ := hxy
  simp only at hxy1 hxy2
  subst hxy2
  refine gl_op rfl rfl rfl (op_indexAddr hT rfl rfl el45.cellsOf.1 el45.cellsOf.2 rfl rfl (by omega) (by omega) hA) ?_
  refine gl_op rfl rfl rfl (op_load hT rfl rfl rfl rfl hcl) ?_
  refine Zp rfl (gl_nil (hK14 _ _ (gc_region (Zp rfl (Zp rfl (gl_callf rfl rfl rfl rfl Tryz.func42 rfl rfl rfl (putFloats_calls gc _ A c (m) 0 [] _ _ _ x.length (x) _ hS (fun hS => hxy1.old hS) rfl (by omega) (hxy3.2)) ?_))))))
  rintro _ w50 ⟨rfl, A, c, hS⟩
  refine ⟨_, rfl, ?_⟩
  refine gl_nil (hK13 _ _ (gc_region (Zi rfl (by omega) ?_)))
  refine Zp rfl (gl_nil ?_)
  intro a' ha
  exact ⟨i + 1, m ++ encf x, A, c, ha.sub ⟨rfl, rfl, rfl, rfl, rfl, trivial⟩, by omega, by omega, by rw [hm, htk, encG_snoc, List.append_assoc], hS⟩
 simp only [NN, reduceCtorEq] at c45
 have hiG : i = p.G.length := by omega
 subst hiG
 rw [List.take_length] at hm
 refine gc_exit ?_
 refine hK9 _ _ (gc_seq fun K15 hK15 => gc_region (Zp rfl (Zf 2 Tryz.underlying53 rfl el3 (Zb 2 hS rfl (Zi rfl (by omega) ?_)))))
 refine Zf 3 Tryz.underlying53 rfl el51 (Zb 2 hS rfl (Zp rfl (gl_lit hT hS el3 rfl rfl rfl rfl rfl rfl rfl rfl rfl fun g59 w59 hS => ?_)))
 refine gl_callf rfl rfl rfl rfl Tryz.func39 rfl rfl rfl (putUint_calls gc _ A c (m) 0 [] _ _ _ 2 ([p.T + 1, (p.M.length : Int)]) _ hS (.inl rfl) (fun hS => hS.rdE (i := 3) rfl) rfl (by simp; omega) (mem2 (by omega) (by omega))) ?_
 rintro _ w60 ⟨rfl, A, c, hS⟩
 refine ⟨_, rfl, ?_⟩
 have hS := hS.erase 3
 have hl2 : m ++ encs [p.T + 1, (p.M.length : Int)] = encP2 p := by rw [hm]; rfl
 rw [hl2] at hS
 clear hl2 hm
 refine gl_nil (hK15 _ _ (gc_seq fun K16 hK16 => gc_seq fun K17 hK17 => gc_region (Zf 3 Tryz.underlying53 rfl el51 (Zb 2 hS rfl (Zp rfl (Zp rfl (gl_nil (hK17 _ _ (gc_block ?_)))))))))
 refine gc_loop (fun kk a' w' => ∃ (i : Nat) (m : List UInt8) (A : Option Addr) (c : Nat), Fr 96 a' [(1, .pointer (some ⟨g1, 0, none⟩)), (7, .pointer (some ⟨gc, 0, none⟩)), (62, .slice M1 p.M.length M3), (63, .int .i64 (p.M.length : Nat)), (64, .int .i64 (i : Nat))] ∧ i ≤ p.M.length ∧ kk = p.M.length + 1 - i ∧ m = encP2 p ++ encM (p.M.take i) ∧
  St w.heap.size w w' [.blk gc 61 (cuC A (m).length c 0 []), .row A c 5 1 (m).length ((m).map uB), .blk g1 53 (propC (C1, p.C.length, C3) (G1, p.G.length, G3) (M1, p.M.length, M3) p)]) (p.M.length + 1) ?_ ?_ ?_
 ·intro a' ha; exact ⟨0, encP2 p, A, c, ha.sub ⟨rfl, rfl, rfl, rfl, rfl, trivial⟩, by omega, by omega, by simp [encM], hS⟩
 ·rintro a' w' ⟨i, _, _, _, _, h1, h2, _⟩; omega
 clear hS
 rintro kk a' w1 ⟨i, m, A, c, hF, hi, hk, hm, hS⟩
 refine gc_of hF ?_
 clear hF
 have hml : m.length ≤ 700000 := by
  have h1 := encP2_le hf
  have h2 := encM_le (p.M.take i) fun x hx => hf.M.2 x (List.mem_of_mem_take hx)
  rw [List.length_take] at h2
  rw [hm, List.length_append]
  omega
 refine gc_seq fun K18 hK18 => gc_region (Zp rfl (gl_nil (hK18 _ _ (gc_seq fun K19 hK19 => gc_cond rfl rfl (fun c65 => ?_) (fun c65 => ?_)))))
 ·simp only [NN, reduceCtorEq] at c65
  refine gc_skip (hK19 _ _ (gc_seq fun K20 hK20 => gc_block (gc_seq fun K21 hK21 => gc_region ?_)))
  have hiM : i < p.M.length := by omega
  obtain ⟨x, hx⟩ : ∃ x, p.M[i]? = some x := ⟨_, List.getElem?_eq_getElem hiM⟩
  obtain ⟨y, hy⟩ : ∃ y, SM[i]? = some y := ⟨_, List.getElem?_eq_getElem (by omega)⟩
  have hxy := D.rM.rd i y x hy hx
  have hx256 := hf.M.2 x (List.mem_of_getElem? hx)
  have htk : p.M.take (i + 1) = p.M.take i ++ [x] := by rw [List.take_add_one, hx]; rfl
  obtain ⟨ad, hA, hcl⟩ := (D.rM.rS.old hS).at (none, 0, 0) (i := (i : Int)) (by omega) (by omega)
  have hug : SM.getD ((i : Int)).toNat (none, 0, 0) = y := by rw [Int.toNat_natCast, List.getD_eq_getElem?_getD, hy]; rfl
  rw [hug] at hcl
  obtain ⟨y1, y2, y3⟩ := y
  obtain ⟨hxy1, hxy2, hxy3⟩ := hxy
  simp only at hxy1 hxy2
  subst hxy2
  refine gl_op rfl rfl rfl (op_indexAddr hT rfl rfl el45.cellsOf.1 el45.cellsOf.2 rfl rfl (by omega) (by omega) hA) ?_
  refine gl_op rfl rfl rfl (op_load hT rfl rfl rfl rfl hcl) ?_
  refine Zp rfl (gl_nil (hK21 _ _ (gc_seq fun K22 hK22 => gc_region (Zp rfl (Zp rfl (Zp rfl (gl_lit hT hS el3 rfl rfl rfl rfl rfl rfl rfl rfl rfl fun g71 w71 hS => ?_)))))))
  refine gl_callf rfl rfl rfl rfl Tryz.func39 rfl rfl rfl (putUint_calls gc _ A c (m) 0 [] _ _ _ 1 ([(x.length : Int)]) _ hS (.inl rfl) (fun hS => hS.rdE (i := 3) rfl) rfl (by simp; omega) (fun v hv => by rw [List.mem_singleton.1 hv]; omega)) ?_
  rintro _ w72 ⟨rfl, A, c, hS⟩
  refine ⟨_, rfl, ?_⟩
  have hS := hS.erase 3
  refine gl_nil (hK22 _ _ (gc_region (Zp rfl (Zp rfl (gl_callf rfl rfl rfl rfl Tryz.func42 rfl rfl rfl (putFloats_calls gc _ A c (m ++ encs [(x.length : Int)]) 0 [] _ _ _ x.length (x) _ hS (fun hS => hxy1.old hS) rfl (by have := encs1_le x.length (by omega); rw [List.length_append]; omega) (hxy3.2)) ?_)))))
  rintro _ w75 ⟨rfl, A, c, hS⟩
  refine ⟨_, rfl, ?_⟩
  refine gl_nil (hK20 _ _ (gc_region (Zi rfl (by omega) ?_)))
  refine Zp rfl (gl_nil ?_)
  intro a' ha
  exact ⟨i + 1, m ++ encs [(x.length : Int)] ++ encf x, A, c, ha.sub ⟨rfl, rfl, rfl, rfl, rfl, trivial⟩, by omega, by omega, by rw [hm, htk, encM_snoc, List.append_assoc, List.append_assoc], hS⟩
 simp only [NN, reduceCtorEq] at c65
 have hiM : i = p.M.length := by omega
 subst hiM
 rw [List.take_length] at hm
 have hfK := hf.K
 have hfD := hf.D
 have hfS := hf.S
 refine gc_exit ?_
 refine hK16 _ _ (gc_seq fun K23 hK23 => gc_region (Zp rfl (Zf 4 Tryz.underlying53 rfl el3 (Zb 2 hS rfl (Zf 5 Tryz.underlying53 rfl el3 (Zb 2 hS rfl (Zf 6 Tryz.underlying53 rfl el3 (Zb 2 hS rfl (gl_lit hT hS el3 rfl rfl rfl rfl rfl rfl rfl rfl rfl fun g84 w84 hS => ?_)))))))))
 refine gl_callf rfl rfl rfl rfl Tryz.func39 rfl rfl rfl (putUint_calls gc _ A c (m) 0 [] _ _ _ 3 ([p.K, p.D, p.S]) _ hS (.inl rfl) (fun hS => hS.rdE (i := 3) rfl) rfl (by simp; omega) (mem3 (by omega) (by omega) (by omega))) ?_
 rintro _ w85 ⟨rfl, A, c, hS⟩
 refine ⟨_, rfl, ?_⟩
 have hS := hS.erase 3
 have hl3 : m ++ encs [p.K, p.D, p.S] = encP p := by rw [hm]; rfl
 rw [hl3] at hS
 clear hl3 hm
 have hl7 := encP_le hf
 have hev : encPV p = encP p ++ le4 (crcV (encP p)) := by unfold encPV; rw [if_neg (by omega)]
 refine gl_nil (hK23 _ _ (gc_seq fun K24 hK24 => gc_anyS (hS.blank 1) (by kernel_rfl) rfl fun nq21 hK => ?_))
 have hS := hS.dr nq21
 refine Yp 0 rfl (by kernel_rfl) (fun _ _ _ _ h => h) hK ?_
 refine Yp 1 rfl (by kernel_rfl) (fun _ _ _ _ h => h) hK ?_
 refine Yf 2 0 Tryz.underlying61 rfl el22 (by kernel_rfl) (fun _ _ _ _ h => h) hK ?_
 refine Yb 3 0 rfl (by kernel_rfl) (fun _ _ _ _ h => h) hK ?_
 refine Yp 4 rfl (by kernel_rfl) (fun _ _ _ _ h => h) hK ?_
 refine Yp 5 rfl (by kernel_rfl) (fun _ _ _ _ h => h) hK ?_
 refine Yf 6 0 Tryz.underlying61 rfl el22 (by kernel_rfl) (fun _ _ _ _ h => h) hK ?_
 refine Yb 7 0 rfl (by kernel_rfl) (fun _ _ _ _ h => h) hK ?_
 refine ga_one 8 (by kernel_rfl) rfl ?_
 refine gl_callf rfl rfl rfl rfl Tryz.func44 rfl rfl rfl (sealed_calls A _ c (encP p) _ (hS.rdE (i := 1) rfl) rfl (by omega)) ?_
 rintro _ w94 ⟨A94, c94, rfl, hr94, hb94⟩
 refine ⟨_, rfl, ?_⟩
 have hS := hS.addRow hb94 hr94
 refine gl_nil (ga_next ((hS.blank 1).pre 3) fun hK => ?_)
 refine ga_one 9 (by kernel_rfl) rfl ?_
 refine gl_append 1 hT hS el5 (hS.rd (i := 3) rfl) (allOne_map (fun _ => rfl) _) rfl rfl rfl rfl rfl rfl rfl rfl (by first | omega | (simp; omega)) (by first | omega | (simp; omega)) fun A95 c95 w95 hS => ?_
 have hS := hS.erase 3
 refine gl_nil (ga_next ((hS.blank 1).pre 3) fun hK => ?_)
 refine Yp 10 rfl (by kernel_rfl) (fun _ _ _ _ h => h) hK ?_
 refine Yp 11 rfl (by kernel_rfl) (fun _ _ _ _ h => h) hK ?_
 refine Yp 12 rfl (by kernel_rfl) (fun _ _ _ _ h => h) hK ?_
 refine ga_done (by kernel_rfl) ?_
 refine hK24 _ _ (gc_ret (gk_ret3 rfl rfl rfl rfl ?_))
 rw [hev, hfz, hf.z]
 refine ⟨A95, c95, ?_, ?_⟩
 ·rw [List.length_append]; rfl
 rw [List.length_append, List.map_append]
 exact (hS.erase 0).erase 1
end Go.Proofs.YtnomlloaahoceaaGreatDoor
