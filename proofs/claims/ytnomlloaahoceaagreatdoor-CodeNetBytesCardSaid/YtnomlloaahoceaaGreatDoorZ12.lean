/- Contracts of functions that CodeNetBytes reaches, and words to say them. No condition. -/
import Derived.Test.YtnomlloaahoceaaGreatDoorZ11
import Derived.Test.YtnomlloaahoceaaGreatDoorZ03
import Derived.Test.YtnomlloaahoceaaGreatDoorZ08
import Derived.WideLaws
/- Contracts: several lists laid with marks behind, their bits. No condition. -/
namespace Go.Proofs.YtnomlloaahoceaaGreatDoor
open Go.RowKit
set_option linter.unusedVariables false
set_option linter.unusedSimpArgs false
@[reducible] def m31 : Value := fV 13852790978814935040
structure LdM (w : World) (ok : Nat → Prop) (A : Option Addr) (c : Nat) (S : List Sv) (ls : List (List Nat)) (mk : Sv) : Prop where
 rS : Rd w ok A (ls.length + 1) 1 (S.map svV ++ [svV mk])
 cp : ls.length + 1 ≤ c
 len : S.length = ls.length
 rd : ∀ (i : Nat) x l, S[i]? = some x → ls[i]? = some l → Rd w ok x.1 (l.length + 9) 1 (laidC l) ∧ x.2.1 = l.length ∧ l.length + 9 ≤ x.2.2
 rm : Rd w ok mk.1 1 1 [m31]
 nm : mk.2.1 = 1
theorem LdM.keep {w w0 : World} {B : Nat} {L : List It} (hS : St B w0 w L) {i : Nat} {ok : Nat → Prop} {wk : World} (hi : L[i]? = some (.keep ok wk)) {A : Option Addr} {c : Nat} {S : List Sv} {ls : List (List Nat)} {mk : Sv} (h : LdM wk ok A c S ls mk) : LdM w ok A c S ls mk :=
 ⟨hS.keepRd hi h.rS, h.cp, h.len, fun j x l h1 h2 => ⟨hS.keepRd hi (h.rd j x l h1 h2).1, (h.rd j x l h1 h2).2⟩, hS.keepRd hi h.rm, h.nm⟩
theorem LdM.weaken {w : World} {ok ok' : Nat → Prop} {A : Option Addr} {c : Nat} {S : List Sv} {ls : List (List Nat)} {mk : Sv} (h : LdM w ok A c S ls mk) (hok : ∀ b, ok b → ok' b) : LdM w ok' A c S ls mk :=
 ⟨h.rS.weaken hok, h.cp, h.len, fun j x l h1 h2 => ⟨(h.rd j x l h1 h2).1.weaken hok, (h.rd j x l h1 h2).2⟩, h.rm.weaken hok, h.nm⟩
theorem LdM.lsM {w : World} {ok : Nat → Prop} {A : Option Addr} {c : Nat} {S : List Sv} {ls : List (List Nat)} {mk : Sv} (h : LdM w ok A c S ls mk) (hl : ∀ l ∈ ls, l.length ≤ 17592186044416 ∧ ∀ u ∈ l, u < 18446744073709551616) : LsM w ok A S ls := by
 refine ⟨rdE_of (h.rS.pre (by rw [List.length_map, h.len]) (by omega)) h.len, h.len, fun i x l h1 h2 => ?_⟩
 have := h.rd i x l h1 h2
 have hb := hl l (List.mem_of_getElem? h2)
 exact ⟨rdE_of (this.1.pre (cs := l.map fV) (m := l.length) (by rw [List.length_map]) (by omega)) rfl, this.2.1, by omega, hb.2⟩
theorem LsU.keep {w w0 : World} {B : Nat} {L : List It} (hS : St B w0 w L) {i : Nat} {ok : Nat → Prop} {wk : World} (hi : L[i]? = some (.keep ok wk)) {A : Option Addr} {S : List Sv} {ls : List (List Nat)} (h : LsU wk ok A S ls) : LsU w ok A S ls :=
 ⟨hS.keepRd hi h.rS, h.len, fun j x l h1 h2 => ⟨hS.keepRd hi (h.rd j x l h1 h2).1, (h.rd j x l h1 h2).2⟩⟩
theorem LsU.weaken {w : World} {ok ok' : Nat → Prop} {A : Option Addr} {S : List Sv} {ls : List (List Nat)} (h : LsU w ok A S ls) (hok : ∀ b, ok b → ok' b) : LsU w ok' A S ls :=
 ⟨Rd.weaken h.rS hok, h.len, fun j x l h1 h2 => ⟨Rd.weaken (h.rd j x l h1 h2).1 hok, (h.rd j x l h1 h2).2⟩⟩
def Bcs (w : World) (ok : Nat → Prop) (S : List Sv) (ls : List (List Nat)) : Prop := S.length = ls.length ∧ ∀ (i : Nat) x l, S[i]? = some x → ls[i]? = some l → RdE w ok uV x.1 l ∧ x.2.1 = l.length ∧ l.length ≤ 17592186044416 ∧ ∀ u ∈ l, u < 18446744073709551616
theorem Bcs.lift {w w' : World} {ok ok' : Nat → Prop} {S : List Sv} {ls : List (List Nat)} (h : Bcs w ok S ls) (hl : ∀ {A : Option Addr} {n : Nat} {cs : List Value}, Rd w ok A n 1 cs → Rd w' ok' A n 1 cs) : Bcs w' ok' S ls := ⟨h.1, fun i x l h1 h2 => ⟨hl (h.2 i x l h1 h2).1, (h.2 i x l h1 h2).2⟩⟩
def Pcs (w : World) (ok : Nat → Prop) (S : List Sv) (ls : List (List Nat)) : Prop := S.length = ls.length ∧ ∀ (i : Nat) x l, S[i]? = some x → ls[i]? = some l → Rd w ok x.1 (l.length + 9) 1 (laidC l) ∧ x.2.1 = l.length ∧ l.length + 9 ≤ x.2.2
theorem Pcs.lift {w w' : World} {ok ok' : Nat → Prop} {S : List Sv} {ls : List (List Nat)} (h : Pcs w ok S ls) (hl : ∀ {A : Option Addr} {n : Nat} {cs : List Value}, Rd w ok A n 1 cs → Rd w' ok' A n 1 cs) : Pcs w' ok' S ls := ⟨h.1, fun i x l h1 h2 => ⟨hl (h.2 i x l h1 h2).1, (h.2 i x l h1 h2).2⟩⟩
theorem snoc_get {α : Type} {l : List α} {a x : α} {i : Nat} (h : (l ++ [a])[i]? = some x) : (l[i]? = some x ∧ i < l.length) ∨ (i = l.length ∧ x = a) := by
 rcases Nat.lt_or_ge i l.length with hi | hi
 ·rw [List.getElem?_append_left hi] at h; exact .inl ⟨h, hi⟩
 rw [List.getElem?_append_right hi] at h
 have h1 : i - l.length = 0 := by
  rcases Nat.eq_zero_or_pos (i - l.length) with h1 | h1
  ·exact h1
  rw [List.getElem?_eq_none (by simp; omega)] at h; cases h
 rw [h1] at h
 simp at h
 exact .inr ⟨by omega, h.symm⟩
theorem Pcs.snoc {w : World} {ok : Nat → Prop} {S : List Sv} {ls : List (List Nat)} {x : Sv} {l : List Nat} (h : Pcs w ok S ls) (h1 : Rd w ok x.1 (l.length + 9) 1 (laidC l)) (h2 : x.2.1 = l.length) (h3 : l.length + 9 ≤ x.2.2) : Pcs w ok (S ++ [x]) (ls ++ [l]) := by
 refine ⟨by simp [h.1], fun i y m hy hm => ?_⟩
 have hl := h.1
 rcases snoc_get hy with ⟨hy, hi⟩ | ⟨hi, rfl⟩ <;> rcases snoc_get hm with ⟨hm, hi2⟩ | ⟨hi2, rfl⟩
 ·exact h.2 i y m hy hm
 ·omega
 ·omega
 exact ⟨h1, h2, h3⟩
theorem Bcs.snoc {w : World} {ok : Nat → Prop} {S : List Sv} {ls : List (List Nat)} {x : Sv} {l : List Nat} (h : Bcs w ok S ls) (h1 : RdE w ok uV x.1 l) (h2 : x.2.1 = l.length) (h3 : l.length ≤ 17592186044416) (h4 : ∀ u ∈ l, u < 18446744073709551616) : Bcs w ok (S ++ [x]) (ls ++ [l]) := by
 refine ⟨by simp [h.1], fun i y m hy hm => ?_⟩
 have hl := h.1
 rcases snoc_get hy with ⟨hy, hi⟩ | ⟨hi, rfl⟩ <;> rcases snoc_get hm with ⟨hm, hi2⟩ | ⟨hi2, rfl⟩
 ·exact h.2 i y m hy hm
 ·omega
 ·omega
 exact ⟨h1, h2, h3, h4⟩
end Go.Proofs.YtnomlloaahoceaaGreatDoor

/- Contracts of package code: a reader's head, its numbers, its tail. No condition. -/
namespace Go.Proofs.YtnomlloaahoceaaGreatDoor
open Go.RowKit
set_option linter.unusedVariables false
set_option linter.unusedSimpArgs false
theorem rU_ok {l : List UInt8} {at_ v a : Int} (h : rU l at_ = .ok (v, a)) : 0 ≤ at_ ∧ 0 ≤ v ∧ v < 9223372036854775808 ∧ at_ < a ∧ a ≤ l.length := by
 unfold rU at h
 split at h
 ·rename_i h0
  have := readUV_ok h0
  injection h with h
  obtain ⟨rfl, rfl⟩ := Prod.mk.inj h
  exact this
 cases h
theorem rF_ok {l : List UInt8} {at_ a : Int} {u : Nat} (h : rF l at_ = .ok (u, a)) : 0 ≤ at_ ∧ a = at_ + 8 ∧ a ≤ l.length ∧ u < 18446744073709551616 := by
 unfold rF at h
 split at h
 ·rename_i h0
  injection h with h
  obtain ⟨rfl, rfl⟩ := Prod.mk.inj h
  unfold readFloatV at h0 ⊢
  by_cases h1 : at_ < 0 ∨ (l.length : Int) < at_
  ·rw [if_pos h1] at h0; exact absurd h0 (by decide)
  rw [if_neg h1] at h0 ⊢
  by_cases h2 : (l.length : Int) - at_ < 8
  ·rw [if_pos h2] at h0; exact absurd h0 (by decide)
  rw [if_neg h2] at h0 ⊢
  by_cases h3 : numB (vLE l at_.toNat 8) = false
  ·rw [if_pos h3] at h0; exact absurd h0 (by decide)
  rw [if_neg h3]
  have := vLE_lt l at_.toNat 8
  rw [show (256 : Nat) ^ 8 = 18446744073709551616 by decide] at this
  exact ⟨by omega, rfl, by simp only; omega, this⟩
 cases h
theorem rFs_ok {l : List UInt8} : ∀ {n : Nat} {at_ a : Int} {us : List Nat}, rFs l n at_ = .ok (us, a) → us.length = n ∧ (0 ≤ at_ ∧ at_ ≤ l.length → 0 ≤ a ∧ a ≤ l.length) ∧ (∀ u ∈ us, u < 18446744073709551616)
 | 0, at_, a, us, h => by
  unfold rFs at h
  injection h with h
  obtain ⟨rfl, rfl⟩ := Prod.mk.inj h
  exact ⟨rfl, id, fun u hu => by cases hu⟩
 | n + 1, at_, a, us, h => by
  unfold rFs at h
  cases h1 : rF l at_ with
  | error x => rw [h1] at h; cases h
  | ok p =>
   obtain ⟨u, b⟩ := p
   rw [h1] at h
   simp only at h
   cases h2 : rFs l n b with
   | error x => rw [h2] at h; cases h
   | ok q =>
    obtain ⟨vs, d⟩ := q
    rw [h2] at h
    injection h with h
    obtain ⟨rfl, rfl⟩ := Prod.mk.inj h
    have k1 := rF_ok h1
    obtain ⟨k2, k3, k4⟩ := rFs_ok h2
    refine ⟨by simp [k2], fun _ => k3 ⟨by omega, by omega⟩, fun x hx => ?_⟩
    rcases List.mem_cons.1 hx with rfl | hx
    ·exact k1.2.2.2
    exact k4 x hx
theorem rFs_snoc {l : List UInt8} : ∀ {n : Nat} {at_ a : Int} {us : List Nat}, rFs l n at_ = .ok (us, a) → ∀ k, rFs l (n + k) at_ = match rFs l k a with | .error x => .error x | .ok (vs, b) => .ok (us ++ vs, b)
 | 0, at_, a, us, h, k => by
  unfold rFs at h
  injection h with h
  obtain ⟨rfl, rfl⟩ := Prod.mk.inj h
  rw [Nat.zero_add]
  cases rFs l k at_ with
  | error x => rfl
  | ok q => rfl
 | n + 1, at_, a, us, h, k => by
  unfold rFs at h
  rw [show n + 1 + k = (n + k) + 1 by omega]
  show (match rF l at_ with | .error x => Except.error x | .ok (u, a) => match rFs l (n + k) a with | .error x => .error x | .ok (us, b) => .ok (u :: us, b)) = _
  cases h1 : rF l at_ with
  | error x => rw [h1] at h; cases h
  | ok p =>
   obtain ⟨u, b⟩ := p
   rw [h1] at h
   simp only at h ⊢
   cases h2 : rFs l n b with
   | error x => rw [h2] at h; cases h
   | ok q =>
    obtain ⟨vs, d⟩ := q
    rw [h2] at h
    injection h with h
    obtain ⟨rfl, rfl⟩ := Prod.mk.inj h
    rw [rFs_snoc h2 k]
    cases rFs l k d with
    | error x => rfl
    | ok r => rfl
theorem St.front2 {B : Nat} {w0 w : World} {x y : It} {L : List It} (h : St B w0 w (x :: L ++ [y])) : St B w0 w (x :: y :: L) := h.moveIn 1
set_option maxRecDepth 100000 in
theorem cFloats_calls {B : Nat} {w0 : World} (g : Nat) (bt : TypeId) (A : Option Addr) (n c : Nat) (l : List UInt8) (at_ : Int) (cs : List Value) (L : List It) (w : World) (m : Nat) (hS0 : St B w0 w (.blk g bt (cuC A n c at_ cs) :: L)) {ok : Nat → Prop} (hr : Rdb B w0 ok A l) (hn : n = l.length) (hb : l.length ≤ 1048576) (hat : 0 ≤ at_ ∧ at_ ≤ l.length) (hm : m ≤ 1048576) :
 Calls Tryz.prog 47 ⟨[.pointer (some ⟨g, 0, none⟩), .int .i64 (m : Nat)]⟩ w fun en w' => (∃ x y a, rFs l m at_ = .error (x, y) ∧ en = .panicked (pn x y) ∧ St B w0 w' (.blk g bt (cuC A n c a cs) :: L)) ∨
  (∃ us a A' c', rFs l m at_ = .ok (us, a) ∧ en = .returned (.slice A' m c') ∧ St B w0 w' (.blk g bt (cuC A n c a cs) :: .row A' c' 44 1 m (us.map fV) :: L)) := by
 subst hn
 refine gc_enter (N := 16) Tryz.func47 rfl rfl rfl [(0, _), (1, _)] rfl ?_
 have hS := St.start w
 have hS := hS0
 refine gc_seq fun K1 hK1 => gc_region (Zp rfl (gl_nil (hK1 _ _ (gc_seq fun K2 hK2 => gc_region (Zp rfl (gl_nil (hK2 _ _ (gc_seq fun K3 hK3 => gc_seq fun K4 hK4 => gc_region (Zp rfl (Zp rfl (gl_nil (hK4 _ _ (gc_block ?_)))))))))))))
 have hS := (hS.nil 44 1).front2
 refine gc_loop (fun kk a' w' => ∃ (i : Nat) (us : List Nat) (a : Int) (A' : Option Addr) (c' : Nat), Fr 16 a' [(0, .pointer (some ⟨g, 0, none⟩)), (5, .slice A' i c'), (6, .int .i64 (m : Nat)), (7, .int .i64 (i : Nat))] ∧ i ≤ m ∧ kk = m + 1 - i ∧ rFs l i at_ = .ok (us, a) ∧
  St B w0 w' (.blk g bt (cuC A l.length c a cs) :: .row A' c' 44 1 i (us.map fV) :: L)) (m + 1) ?_ ?_ ?_
 ·intro a' ha; exact ⟨0, [], at_, none, 0, ha.sub ⟨rfl, rfl, rfl, rfl, trivial⟩, by omega, by omega, rfl, hS⟩
 ·rintro a' w' ⟨i, _, _, _, _, _, h1, h2, _⟩; omega
 clear hS
 rintro kk a' w1 ⟨i, us, a, A', c', hF, hi, hk, hus, hS⟩
 refine gc_of hF ?_
 clear hF
 obtain ⟨hul, hua, huf⟩ := rFs_ok hus
 have hab := hua hat
 refine gc_seq fun K5 hK5 => gc_region (Zp rfl (gl_nil (hK5 _ _ (gc_seq fun K6 hK6 => gc_cond rfl rfl (fun c8 => ?_) (fun c8 => ?_)))))
 ·simp only [NN, reduceCtorEq] at c8
  refine gc_skip (hK6 _ _ (gc_seq fun K7 hK7 => gc_block (gc_region (Zp rfl (Zp rfl ?_)))))
  have hsn := rFs_snoc hus
  refine gl_callP rfl rfl rfl rfl Tryz.func49 rfl rfl rfl (cFloat_calls g bt A l.length c l a cs _ _ hS hr rfl hb (by omega)) ?_
  rintro _ w11 (⟨x, y, hx, rfl, hS⟩ | ⟨v, b, hx, rfl, hS⟩)
  ·refine .inr ⟨_, rfl, ?_⟩
   simp only [x_then_panic, x_block_panic]
   refine gk_panic ?_
   refine .inl ⟨x, y, a, ?_, rfl, hS.erase 1⟩
   have h1 := hsn (1 + (m - (i + 1)))
   rw [show i + (1 + (m - (i + 1))) = m by omega] at h1
   rw [h1, Nat.add_comm 1]
   unfold rFs
   rw [hx]
  refine .inl ⟨_, rfl, ?_⟩
  have hs1 : rFs l (i + 1) at_ = .ok (us ++ [v], b) := by
   rw [hsn 1]
   unfold rFs
   rw [hx]
   rfl
  refine gl_lit hT hS el44 rfl rfl rfl rfl rfl rfl rfl rfl rfl fun g12 w12 hS => ?_
  have hS := hS.moveIn 2
  refine gl_append 1 hT hS el44 (hS.rd (i := 2) rfl) (rfl) rfl rfl rfl rfl rfl rfl rfl rfl (by first | omega | (simp; omega)) (by first | omega | (simp; omega)) fun A13 c13 w13 hS => ?_
  have hS := hS.erase 2
  refine Zp rfl (gl_nil (hK7 _ _ (gc_region (Zi rfl (by omega) ?_))))
  refine Zp rfl (gl_nil ?_)
  intro a' ha
  refine ⟨i + 1, us ++ [v], b, A13, c13, ha.sub ⟨rfl, rfl, rfl, rfl, trivial⟩, by omega, by omega, hs1, ?_⟩
  rw [List.map_append]
  exact hS
 simp only [NN, reduceCtorEq] at c8
 refine gc_exit ?_
 refine hK3 _ _ (gc_seq fun K8 hK8 => gc_region (Zp rfl (Zp rfl (gl_nil (hK8 _ _ (gc_ret (gk_ret1 rfl rfl ?_)))))))
 have him : i = m := by omega
 subst him
 exact .inr ⟨us, a, A', c', hus, rfl, hS⟩
end Go.Proofs.YtnomlloaahoceaaGreatDoor

/- Contracts of package code: sums, heads and tails; what recovers. No condition. -/
namespace Go.Proofs.YtnomlloaahoceaaGreatDoor
open Go.RowKit
set_option linter.unusedVariables false
set_option linter.unusedSimpArgs false
theorem sealed_calls (A : Option Addr) (n c : Nat) (l : List UInt8) (w : World) {ok : Nat → Prop} (h1 : RdE w ok uB A l) (hn : n = l.length) (hb : l.length ≤ 1048576000) :
 Calls Tryz.prog 44 ⟨[.slice A n c]⟩ w fun e w' => ∃ A' c', e = .returned (.slice A' 4 c') ∧ Owns w' w.heap.size A' c' 5 1 4 ((le4 (crcV l)).map uB) ∧ Below w.heap.size w w' := by
 subst hn
 refine gc_enter (N := 19) Tryz.func44 rfl rfl rfl [(0, _)] rfl ?_
 have hS := St.start w
 refine gc_seq fun K1 hK1 => gc_region (Zp rfl (gl_nil (hK1 _ _ (gc_seq fun K2 hK2 => gc_region (Zp rfl (gl_lit hT hS el22 rfl rfl rfl rfl rfl rfl rfl rfl rfl fun g5 w5 hS => ?_))))))
 refine gl_callf rfl rfl rfl rfl Tryz.func74 rfl rfl rfl (Sum1_calls _ A _ c l _ (hS.rdE (l := [(A, l.length, c)]) (i := 0) rfl) (h1.old hS) (by omega)) ?_
 rintro _ w6 ⟨rfl, hb6⟩
 refine ⟨_, rfl, ?_⟩
 have hS := hS.grown hb6
 refine Zp rfl (gl_nil (hK2 _ _ (gc_seq fun K3 hK3 => gc_region (Zp rfl (Zp rfl (Zp rfl (Zp rfl (Zp rfl (Zp rfl (Zp rfl (Zp rfl (Zp rfl (Zp rfl (Zp rfl (gl_lit hT hS el5 rfl rfl rfl rfl rfl rfl rfl rfl rfl fun g18 w18 hS => ?_)))))))))))))))
 refine Zp rfl (gl_nil (hK3 _ _ (gc_ret ?_)))
 simp only [XR]
 refine gk_ret1 rfl rfl ?_
 obtain ⟨h2, h3⟩ := hS.out (i := 1) rfl
 obtain ⟨v, hv⟩ : ∃ v, v = crcV l := ⟨_, rfl⟩
 rw [← hv] at h2 ⊢
 have e1 := u8_wrap v
 have e2 := u8_wrap (v / 256)
 have e3 := u8_wrap (v / 65536)
 have e4 := u8_wrap (v / 16777216)
 simp only [Int.natCast_ediv] at e2 e3 e4
 have e5 : [Value.int .u8 (IntKind.u8.wrap v), .int .u8 (IntKind.u8.wrap ((v : Int) / 2 ^ 8)), .int .u8 (IntKind.u8.wrap ((v : Int) / 2 ^ 16)), .int .u8 (IntKind.u8.wrap ((v : Int) / 2 ^ 24))] = (le4 v).map uB := by
  simp only [le4, List.map_cons, List.map_nil]
  rw [← e1, ← e2, ← e3, ← e4]
  rfl
 have h4 : Owns w18 w.heap.size (some ⟨g18, 0, none⟩) 4 5 1 4 [Value.int .u8 (IntKind.u8.wrap v), .int .u8 (IntKind.u8.wrap ((v : Int) / 2 ^ 8)), .int .u8 (IntKind.u8.wrap ((v : Int) / 2 ^ 16)), .int .u8 (IntKind.u8.wrap ((v : Int) / 2 ^ 24))] := h2
 rw [e5] at h4
 exact ⟨_, _, rfl, h4, h3⟩
def hdV (mm : List UInt8) (l : List UInt8) : Option (Int × Int) :=
 if 1048576 < l.length then some (2, 1048576) else if l.length < 4 ∨ l.take 4 ≠ mm then some (80, 0) else if l.length < 5 ∨ l.getD 4 0 ≠ 1 then some (81, 4) else none
def tlV (l : List UInt8) (at_ : Int) : Option (Int × Int) :=
 if (l.length : Int) - at_ < 4 then some (10, at_) else if le4 (crcV (l.take at_.toNat)) ≠ (l.drop at_.toNat).take 4 then some (16, at_) else if at_ + 4 < (l.length : Int) then some (82, at_ + 4) else none
theorem cHead_calls {B : Nat} {w0 : World} (g : Nat) (bt : TypeId) (A : Option Addr) (n c : Nat) (l mm : List UInt8) (at_ : Int) (cs : List Value) (L : List It) (w : World) (hS0 : St B w0 w (.blk g bt (cuC A n c at_ cs) :: L)) {ok : Nat → Prop} (hr : Rdb B w0 ok A l) (hn : n = l.length) (hc : n ≤ c) (hb : l.length ≤ 4611686018427387904) :
 Calls Tryz.prog 19 ⟨[.pointer (some ⟨g, 0, none⟩), .string (strB mm)]⟩ w fun en w' => (∃ x y, hdV mm l = some (x, y) ∧ en = .panicked (pn x y) ∧ St B w0 w' (.blk g bt (cuC A n c at_ cs) :: L)) ∨
  (hdV mm l = none ∧ en = .returned (.tuple #[]) ∧ St B w0 w' (.blk g bt (cuC A n c 5 cs) :: L)) := by
 subst hn
 refine gc_enter (N := 50) Tryz.func19 rfl rfl rfl [(0, _), (1, _)] rfl ?_
 have hS := St.start w
 have hS := hS0
 refine gc_seq fun K1 hK1 => gc_seq fun K2 hK2 => gc_region (Zp rfl (Zp rfl (Zf 0 Tryz.underlying61 rfl el22 (Zb 0 hS rfl (Zp rfl (Zp rfl (gl_nil (hK2 _ _ (gc_cond rfl rfl (fun c9 => ?_) (fun c9 => ?_))))))))))
 ·simp only [NN, reduceCtorEq] at c9
  refine gc_region (Zp rfl (gl_callP rfl rfl rfl rfl Tryz.func23 rfl rfl rfl (fail_calls _ 2 1048576 _) ?_))
  rintro _ w11 ⟨rfl, hb11⟩
  refine .inr ⟨_, rfl, ?_⟩
  simp only [x_then_panic, x_block_panic]
  refine gk_panic ?_; exact .inl ⟨_, _, by unfold hdV; rw [if_pos (by omega)], rfl, hS.eqv hb11⟩
 simp only [NN, reduceCtorEq] at c9
 refine gc_skip (hK1 _ _ (gc_seq fun K3 hK3 => gc_seq fun K4 hK4 => gc_region (Zp rfl (Zp rfl (Zf 0 Tryz.underlying61 rfl el22 (Zb 0 hS rfl (Zp rfl (Zp rfl (Zp rfl (gl_split (t := 18) rfl (fun c18 => ?_) (fun c18 => ?_)))))))))))
 ·simp only [NN, reduceCtorEq] at c18
  refine Zs rfl (Zs rfl (Zs rfl (Zs rfl (Zs rfl (Zs rfl (Zs rfl (Zs rfl (Zp rfl (gl_nil (hK4 _ _ (gc_cond_t rfl (gc_region (Zp rfl (gl_callP rfl rfl rfl rfl Tryz.func23 rfl rfl rfl (fail_calls _ 80 0 _) ?_))))))))))))))
  rintro _ w29 ⟨rfl, hb29⟩
  refine .inr ⟨_, rfl, ?_⟩
  simp only [x_then_panic, x_block_panic]
  refine gk_panic ?_; exact .inl ⟨_, _, by unfold hdV; rw [if_neg (by omega), if_pos (by first | (left; omega) | (right; intro h; exact c27 (by rw [h])))], rfl, hS.eqv hb29⟩
 simp only [NN, reduceCtorEq] at c18
 refine Zu rfl (Zp rfl (Zu rfl (Zp rfl (Zu rfl (Zf 0 Tryz.underlying61 rfl el22 (Zu rfl (Zb 0 hS rfl (Zu rfl (gl_op rfl rfl rfl (op_slice_h hT el5 rfl rfl rfl rfl (by first | omega | (simp; omega)) (by first | omega | (simp; omega))) ?_)))))))))
 refine Zu rfl (gl_op rfl rfl rfl (op_b2s hT ((hr hS).take 4) rfl rfl rfl rfl rfl (by rw [List.length_take]; omega)) ?_)
 refine Zu rfl (Zp rfl (Zu rfl (Zp rfl (Zp rfl (gl_nil (hK4 _ _ (gc_cond rfl rfl (fun c27 => ?_) (fun c27 => ?_))))))))
 ·simp only [NN, reduceCtorEq] at c27
  refine gc_region (Zp rfl (gl_callP rfl rfl rfl rfl Tryz.func23 rfl rfl rfl (fail_calls _ 80 0 _) ?_))
  rintro _ w29 ⟨rfl, hb29⟩
  refine .inr ⟨_, rfl, ?_⟩
  simp only [x_then_panic, x_block_panic]
  refine gk_panic ?_; exact .inl ⟨_, _, by unfold hdV; rw [if_neg (by omega), if_pos (by first | (left; omega) | (right; intro h; exact c27 (by rw [h])))], rfl, hS.eqv hb29⟩
 simp only [NN, reduceCtorEq] at c27
 have hmm : l.take 4 = mm := strB_inj c27
 refine gc_skip (hK3 _ _ (gc_seq fun K5 hK5 => gc_seq fun K6 hK6 => gc_region (Zp rfl (Zp rfl (Zf 0 Tryz.underlying61 rfl el22 (Zb 0 hS rfl (Zp rfl (Zp rfl (Zp rfl (gl_split (t := 36) rfl (fun c36 => ?_) (fun c36 => ?_)))))))))))
 ·simp only [NN, reduceCtorEq] at c36
  refine Zs rfl (Zs rfl (Zs rfl (Zs rfl (Zs rfl (Zs rfl (Zs rfl (Zp rfl (gl_nil (hK6 _ _ (gc_cond_t rfl (gc_region (Zp rfl (gl_callP rfl rfl rfl rfl Tryz.func23 rfl rfl rfl (fail_calls _ 81 4 _) ?_)))))))))))))
  rintro _ w46 ⟨rfl, hb46⟩
  refine .inr ⟨_, rfl, ?_⟩
  simp only [x_then_panic, x_block_panic]
  refine gk_panic ?_
  refine .inl ⟨81, 4, ?_, rfl, hS.eqv hb46⟩
  unfold hdV
  rw [if_neg (by omega), if_neg (fun h => h.elim (fun h => by omega) (fun h => h hmm)), if_pos]
  left; omega
 simp only [NN, reduceCtorEq] at c36
 refine Zu rfl (Zp rfl (Zu rfl (Zp rfl (Zu rfl (Zf 0 Tryz.underlying61 rfl el22 (Zu rfl (Zb 0 hS rfl (Zu rfl ?_))))))))
 obtain ⟨ad, hA, hcl⟩ := (hr hS).at 0 (i := 4) (by omega) (by omega)
 refine gl_op rfl rfl rfl (op_indexAddr hT rfl rfl el5.cellsOf.1 el5.cellsOf.2 rfl rfl (by omega) (by omega) hA) ?_
 refine Zu rfl (gl_op rfl rfl rfl (op_load hT rfl rfl rfl rfl hcl) ?_)
 refine Zu rfl (Zp rfl (Zp rfl (gl_nil (hK6 _ _ (gc_cond rfl rfl (fun c44 => ?_) (fun c44 => ?_))))))
 ·simp only [NN, reduceCtorEq] at c44
  refine gc_region (Zp rfl (gl_callP rfl rfl rfl rfl Tryz.func23 rfl rfl rfl (fail_calls _ 81 4 _) ?_))
  rintro _ w46 ⟨rfl, hb46⟩
  refine .inr ⟨_, rfl, ?_⟩
  simp only [x_then_panic, x_block_panic]
  refine gk_panic ?_
  refine .inl ⟨81, 4, ?_, rfl, hS.eqv hb46⟩
  unfold hdV
  rw [if_neg (by omega), if_neg (fun h => h.elim (fun h => by omega) (fun h => h hmm)), if_pos]
  right; intro h; rw [show ((4 : Int)).toNat = 4 from rfl, h] at c44; exact c44 rfl
 simp only [NN, reduceCtorEq] at c44
 refine gc_skip (hK5 _ _ (gc_region (Zp rfl (Zp rfl (Zf 1 Tryz.underlying61 rfl el3 (gl_store 0 hS el3.cellsOf.1 el3.cellsOf.2 rfl rfl rfl rfl rfl rfl rfl rfl fun w_74 hS => ?_))))))
 refine gl_nil (gk_end0 rfl ?_)
 refine .inr ⟨?_, rfl, hS⟩
 unfold hdV
 rw [if_neg (by omega), if_neg (fun h => h.elim (fun h => by omega) (fun h => h hmm)), if_neg]
 rintro (h | h)
 ·omega
 have e : ((l.getD 4 0).toNat : Int) = 1 := c44
 exact h (UInt8.toNat_inj.1 (by show (l.getD 4 0).toNat = 1; omega))
set_option maxRecDepth 100000 in
theorem cTail_calls {B : Nat} {w0 : World} (g : Nat) (bt : TypeId) (A : Option Addr) (n c : Nat) (l : List UInt8) (at_ : Int) (cs : List Value) (L : List It) (w : World) (hS0 : St B w0 w (.blk g bt (cuC A n c at_ cs) :: L)) {ok : Nat → Prop} (hr : Rdb B w0 ok A l) (hn : n = l.length) (hc : n ≤ c) (hb : l.length ≤ 1048576) (hat : 0 ≤ at_ ∧ at_ ≤ l.length) :
 Calls Tryz.prog 26 ⟨[.pointer (some ⟨g, 0, none⟩)]⟩ w fun en w' => (∃ x y, tlV l at_ = some (x, y) ∧ en = .panicked (pn x y) ∧ St B w0 w' (.blk g bt (cuC A n c at_ cs) :: L)) ∨
  (tlV l at_ = none ∧ en = .returned (.tuple #[]) ∧ St B w0 w' (.blk g bt (cuC A n c at_ cs) :: L)) := by
 subst hn
 obtain ⟨j, rfl⟩ : ∃ j : Nat, at_ = (j : Int) := ⟨at_.toNat, by omega⟩
 refine gc_enter (N := 70) Tryz.func26 rfl rfl rfl [(0, _)] rfl ?_
 have hS := St.start w
 have hS := hS0
 refine gc_seq fun K1 hK1 => gc_seq fun K2 hK2 => gc_anyS hS (by kernel_rfl) rfl fun nq0 hK => ?_
 have hS := hS.dr nq0
 refine Yp 0 rfl (by kernel_rfl) (fun _ _ _ _ h => h) hK ?_
 refine Yp 1 rfl (by kernel_rfl) (fun _ _ _ _ h => h) hK ?_
 refine Yf 2 0 Tryz.underlying61 rfl el22 (by kernel_rfl) (fun _ _ _ _ h => h) hK ?_
 refine Yb 3 0 rfl (by kernel_rfl) (fun _ _ _ _ h => h) hK ?_
 refine Yp 4 rfl (by kernel_rfl) (fun _ _ _ _ h => h) hK ?_
 refine Yp 5 rfl (by kernel_rfl) (fun _ _ _ _ h => h) hK ?_
 refine Yp 6 rfl (by kernel_rfl) (fun _ _ _ _ h => h) hK ?_
 refine Yf 7 1 Tryz.underlying61 rfl el3 (by kernel_rfl) (fun _ _ _ _ h => h) hK ?_
 refine Yb 8 0 rfl (by kernel_rfl) (fun _ _ _ _ h => h) hK ?_
 refine Yi 9 rfl (by omega) (by kernel_rfl) (fun _ _ _ _ h => h) hK ?_
 refine Yp 10 rfl (by kernel_rfl) (fun _ _ _ _ h => h) hK ?_
 refine ga_done (by kernel_rfl) ?_
 refine hK2 _ _ (gc_cond rfl rfl (fun c12 => ?_) (fun c12 => ?_))
 ·simp only [NN, reduceCtorEq] at c12
  refine gc_region (Zp rfl (Zp rfl (Zp rfl (Zf 1 Tryz.underlying61 rfl el3 (Zb 0 hS rfl (gl_callP rfl rfl rfl rfl Tryz.func23 rfl rfl rfl (fail_calls _ 10 j _) ?_))))))
  rintro _ w18 ⟨rfl, hb18⟩
  refine .inr ⟨_, rfl, ?_⟩
  simp only [x_then_panic, x_block_panic]
  refine gk_panic ?_; exact .inl ⟨_, _, by unfold tlV; rw [if_pos (by omega)], rfl, hS.eqv hb18⟩
 simp only [NN, reduceCtorEq] at c12
 refine gc_skip (hK1 _ _ (gc_seq fun K3 hK3 => gc_seq fun K4 hK4 => gc_anyS hS (by kernel_rfl) rfl fun nq2 hK => ?_))
 have hS := hS.dr nq2
 refine Yp 0 rfl (by kernel_rfl) (fun _ _ _ _ h => h) hK ?_
 refine Yp 1 rfl (by kernel_rfl) (fun _ _ _ _ h => h) hK ?_
 refine Yf 2 0 Tryz.underlying61 rfl el22 (by kernel_rfl) (fun _ _ _ _ h => h) hK ?_
 refine Yb 3 0 rfl (by kernel_rfl) (fun _ _ _ _ h => h) hK ?_
 refine Yp 4 rfl (by kernel_rfl) (fun _ _ _ _ h => h) hK ?_
 refine Yp 5 rfl (by kernel_rfl) (fun _ _ _ _ h => h) hK ?_
 refine Yf 6 1 Tryz.underlying61 rfl el3 (by kernel_rfl) (fun _ _ _ _ h => h) hK ?_
 refine Yb 7 0 rfl (by kernel_rfl) (fun _ _ _ _ h => h) hK ?_
 refine ga_take 8 rfl rfl rfl rfl (by kernel_rfl) (fun _ _ _ _ h => h) hK (fun w1 hS => op_slice_h hT el5 rfl rfl rfl rfl (by first | omega | (simp; omega)) (by first | omega | (simp; omega))) ?_
 refine Yp 11 rfl (by kernel_rfl) (fun _ _ _ _ h => h) hK ?_
 refine Yp 12 rfl (by kernel_rfl) (fun _ _ _ _ h => h) hK ?_
 refine Yf 13 0 Tryz.underlying61 rfl el22 (by kernel_rfl) (fun _ _ _ _ h => h) hK ?_
 refine Yb 14 0 rfl (by kernel_rfl) (fun _ _ _ _ h => h) hK ?_
 refine Yp 15 rfl (by kernel_rfl) (fun _ _ _ _ h => h) hK ?_
 refine Yp 16 rfl (by kernel_rfl) (fun _ _ _ _ h => h) hK ?_
 refine Yf 17 1 Tryz.underlying61 rfl el3 (by kernel_rfl) (fun _ _ _ _ h => h) hK ?_
 refine Yb 18 0 rfl (by kernel_rfl) (fun _ _ _ _ h => h) hK ?_
 refine Yp 19 rfl (by kernel_rfl) (fun _ _ _ _ h => h) hK ?_
 refine Yp 20 rfl (by kernel_rfl) (fun _ _ _ _ h => h) hK ?_
 refine Yf 21 1 Tryz.underlying61 rfl el3 (by kernel_rfl) (fun _ _ _ _ h => h) hK ?_
 refine Yb 22 0 rfl (by kernel_rfl) (fun _ _ _ _ h => h) hK ?_
 refine Yi 23 rfl (by omega) (by kernel_rfl) (fun _ _ _ _ h => h) hK ?_
 refine ga_take 24 rfl rfl rfl rfl (by kernel_rfl) (fun _ _ _ _ h => h) hK (fun w1 hS => op_slice_lh hT el5 rfl rfl rfl rfl rfl (by first | omega | (simp; omega)) (by first | omega | (simp; omega)) (by first | omega | (simp; omega))) ?_
 refine ga_take 25 rfl rfl rfl rfl (by kernel_rfl) (fun _ _ _ _ h => h) hK (fun w1 hS => op_b2s hT (((hr hS).drop (k := j) (cap := c) (by omega) hc).take 4) rfl rfl rfl rfl rfl (by rw [List.length_take, List.length_drop]; omega)) ?_
 refine ga_one 9 (by kernel_rfl) rfl ?_
 refine gl_callf rfl rfl rfl rfl Tryz.func44 rfl rfl rfl (sealed_calls A j c (l.take j) _ ((hr hS).take j) (by rw [List.length_take]; omega) (by rw [List.length_take]; omega)) ?_
 rintro _ w28 ⟨A28, c28, rfl, hr28, hb28⟩
 refine ⟨_, rfl, ?_⟩
 have hS := hS.addRow hb28 hr28
 have hS := hS.moveIn 1
 refine gl_nil (ga_next (hS.erase 1) fun hK => ?_)
 refine ga_one 10 (by kernel_rfl) rfl ?_
 refine gl_op rfl rfl rfl (op_b2s hT (hS.rdE (i := 1) rfl) rfl rfl rfl rfl rfl (by rfl)) ?_
 refine gl_nil (ga_next (hS.erase 1) fun hK => ?_)
 refine Yp 26 rfl (by kernel_rfl) (fun _ _ _ _ h => h) hK ?_
 refine ga_done (by kernel_rfl) ?_
 refine hK4 _ _ (gc_cond rfl rfl (fun c45 => ?_) (fun c45 => ?_))
 ·simp only [NN, reduceCtorEq] at c45
  refine gc_region (Zp rfl (Zp rfl (Zp rfl (Zf 1 Tryz.underlying61 rfl el3 (Zb 0 hS rfl (gl_callP rfl rfl rfl rfl Tryz.func23 rfl rfl rfl (fail_calls _ 16 j _) ?_))))))
  rintro _ w51 ⟨rfl, hb51⟩
  refine .inr ⟨_, rfl, ?_⟩
  simp only [x_then_panic, x_block_panic]
  refine gk_panic ?_; exact .inl ⟨_, _, by unfold tlV; rw [if_neg (by omega), if_pos (fun h => c45 (by rw [Int.toNat_natCast] at h; rw [h]))], rfl, (hS.erase 1).eqv hb51⟩
 simp only [NN, reduceCtorEq] at c45
 have htl : le4 (crcV (l.take ((j : Int)).toNat)) = (l.drop ((j : Int)).toNat).take 4 := by rw [Int.toNat_natCast]; exact strB_inj c45
 refine gc_skip (hK3 _ _ (gc_seq fun K5 hK5 => gc_anyS hS (by kernel_rfl) rfl fun nq4 hK => ?_))
 have hS := hS.dr nq4
 refine Yp 0 rfl (by kernel_rfl) (fun _ _ _ _ h => h) hK ?_
 refine Yp 1 rfl (by kernel_rfl) (fun _ _ _ _ h => h) hK ?_
 refine Yf 2 0 Tryz.underlying61 rfl el22 (by kernel_rfl) (fun _ _ _ _ h => h) hK ?_
 refine Yb 3 0 rfl (by kernel_rfl) (fun _ _ _ _ h => h) hK ?_
 refine Yp 4 rfl (by kernel_rfl) (fun _ _ _ _ h => h) hK ?_
 refine Yp 5 rfl (by kernel_rfl) (fun _ _ _ _ h => h) hK ?_
 refine Yp 6 rfl (by kernel_rfl) (fun _ _ _ _ h => h) hK ?_
 refine Yf 7 1 Tryz.underlying61 rfl el3 (by kernel_rfl) (fun _ _ _ _ h => h) hK ?_
 refine Yb 8 0 rfl (by kernel_rfl) (fun _ _ _ _ h => h) hK ?_
 refine Yi 9 rfl (by omega) (by kernel_rfl) (fun _ _ _ _ h => h) hK ?_
 refine Yp 10 rfl (by kernel_rfl) (fun _ _ _ _ h => h) hK ?_
 refine ga_done (by kernel_rfl) ?_
 refine hK5 _ _ (gc_cond rfl rfl (fun c62 => ?_) (fun c62 => ?_))
 ·simp only [NN, reduceCtorEq] at c62
  refine gc_region (Zp rfl (Zp rfl (Zp rfl (Zf 1 Tryz.underlying61 rfl el3 (Zb 0 hS rfl (Zi rfl (by omega) ?_))))))
  refine gl_callP rfl rfl rfl rfl Tryz.func23 rfl rfl rfl (fail_calls _ 82 (j + 4) _) ?_
  rintro _ w69 ⟨rfl, hb69⟩
  refine .inr ⟨_, rfl, ?_⟩
  refine gk_panic ?_; exact .inl ⟨_, _, by unfold tlV; rw [if_neg (by omega), if_neg (fun h => h htl), if_pos (by omega)], rfl, (hS.erase 1).eqv hb69⟩
 simp only [NN, reduceCtorEq] at c62
 refine gc_skip (gk_end0 rfl ?_)
 exact .inr ⟨by unfold tlV; rw [if_neg (by omega), if_neg (fun h => h htl), if_neg (by omega)], rfl, hS.erase 1⟩
theorem given_calls (x at_ : Int) (w : World) : Calls Tryz.prog 18 ⟨[pnV x at_]⟩ w fun en w' => en = .returned (.tuple #[.int .i64 x, .int .i64 at_]) ∧ Below w.heap.size w w' := by
 refine gc_enter (N := 18) Tryz.func18 rfl rfl rfl [(0, _)] rfl ?_
 have hS := St.start w
 refine gc_seq fun K1 hK1 => gc_region (Zp rfl (Zp rfl (gl_nil (hK1 _ _ (gc_seq fun K2 hK2 => gc_region (Zp rfl (gl_op rfl rfl rfl (op_assertT rfl Tryz.underlying102 rfl) ?_)))))))
 refine Zp rfl (Zp rfl (Zp rfl (gl_alloc el102 hS rfl rfl rfl rfl fun g4 w4 hS => ?_)))
 refine gl_storeA 0 hS el102 rfl rfl rfl rfl rfl rfl rfl rfl rfl fun w_34 hS => ?_
 refine Zp rfl (gl_nil (hK2 _ _ (gc_seq fun K3 hK3 => gc_seq fun K4 hK4 => gc_region (Zp rfl (Zp rfl (gl_nil (hK4 _ _ (gc_cond_f rfl (gc_skip (hK3 _ _ (gc_seq fun K5 hK5 => gc_anyS hS (by kernel_rfl) rfl fun nq4 hK => ?_)))))))))))
 have hS := hS.dr nq4
 refine Yf 0 0 Tryz.underlying102 rfl el32 (by kernel_rfl) (fun _ _ _ _ h => h) hK ?_
 refine Yb 1 0 rfl (by kernel_rfl) (fun _ _ _ _ h => h) hK ?_
 refine Yf 2 1 Tryz.underlying102 rfl el3 (by kernel_rfl) (fun _ _ _ _ h => h) hK ?_
 refine Yb 3 0 rfl (by kernel_rfl) (fun _ _ _ _ h => h) hK ?_
 refine Yp 4 rfl (by kernel_rfl) (fun _ _ _ _ h => h) hK ?_
 refine Yp 5 rfl (by kernel_rfl) (fun _ _ _ _ h => h) hK ?_
 refine ga_done (by kernel_rfl) ?_
 refine hK5 _ _ (gc_ret (gk_ret2 rfl rfl rfl ?_))
 exact ⟨rfl, hS.below⟩
theorem op_neqNil {P : Program} {N : Nt} {e : Env} {w : World} {o : Oper} {t yt d : TypeId} {x : Operand} {v : Value} (ho : o.op = .binOp .neq t x (.const .nilIface) yt) (ht : P.underlying t = some (.interface (P.methodsAt t))) (hx : evO e x = some (.iface d v)) : OpR P N e w o (.bool true) := by
 intro n a ha
 have hc : a.eval (.const .nilIface) = .nilIface := rfl
 simp only [execOp, ho, ha.eval hx, hc]
 simp [run_neq_held_nil _ t d v ht, eqGuard, Sem.run_bind, Sem.run_pure]
theorem op_neqNil0 {P : Program} {N : Nt} {e : Env} {w : World} {o : Oper} {t yt : TypeId} {x : Operand} (ho : o.op = .binOp .neq t x (.const .nilIface) yt) (ht : P.underlying t = some (.interface (P.methodsAt t))) (hx : evO e x = some .nilIface) : OpR P N e w o (.bool false) := by
 intro n a ha
 have hc : a.eval (.const .nilIface) = .nilIface := rfl
 simp only [execOp, ho, ha.eval hx, hc]
 simp [run_neq_nil_nil _ t ht, eqGuard, Sem.run_bind, Sem.run_pure]
theorem gk_endS {P : Program} {N : Nt} {e : Env} {w : World} {fn : Func} {R : Ending → FrameMode → World → Prop} {c₀ : Frame} {cs cs1 : List Frame} {u' : FrameMode} (hr : fn.results = #[]) (hcs : cs1 = { c₀ with mode := u' } :: cs) (h : R (.returned (.tuple #[])) u' w) (hds : N.ds = [] := by rfl) :
 GK N e (fun a w => bodyPostS P fn c₀ cs R .normal a cs1 w) w := fun a ha => ⟨ha.defers.trans hds, u', hcs, _, results_none hr _ _ _, h⟩
theorem Fr.of {N : Nt} {a : Act} {e : Env} (hd : a.defers = N.ds) (hs : a.tmps.size = N.n) (h : ∀ p ∈ e, a.tmps[p.1]? = some p.2) : Fr N a e := by
 refine ⟨hd, hs, fun t v hl => ?_⟩
 induction e with
 | nil => simp [look] at hl
 | cons p r ih =>
  obtain ⟨k, u⟩ := p
  rcases look_cons hl with ⟨rfl, rfl⟩ | ⟨_, hl⟩
  ·exact h _ (List.mem_cons_self ..)
  exact ih (fun q hq => h q (List.mem_cons_of_mem _ hq)) hl
set_option maxRecDepth 100000 in
theorem catchP_calls {B : Nat} {w0 : World} (ge ga : Nat) (x at_ e0 a0 : Int) (older : List PanicEntry) (L : List It) (w : World) (hS0 : St B w0 w (.blk ge 32 [.int .i64 e0] :: .blk ga 3 [.int .i64 a0] :: L)) :
 CallsD Tryz.prog 46 #[.pointer (some ⟨ge, 0, none⟩), .pointer (some ⟨ga, 0, none⟩)] (.panicking ({ v := pnV x at_, recovered := false } :: older)) w fun en u' w' =>
  en = .returned (.tuple #[]) ∧ u' = .panicking ({ v := pnV x at_, recovered := true } :: older) ∧ St B w0 w' (.blk ge 32 [.int .i64 x] :: .blk ga 3 [.int .i64 at_] :: L) := by
 refine callsD_of_wpS Tryz.func46 rfl fun c₀ cs hu => ?_
 refine wpS_seq (wpS_region ?_)
 simp [wpOpsS, go_sem, recoverD, hu, pnV, Tryz.ntmps46, Exit.thenS]
 refine wpS_of_wp (gc_of (N := ⟨11, []⟩) (e := [(2, pnV x at_), (0, .pointer (some ⟨ge, 0, none⟩)), (1, .pointer (some ⟨ga, 0, none⟩))]) (Fr.of rfl (by simp) (by simp [pnV])) ?_)
 have hS := hS0
 refine gc_seq fun K1 hK1 => gc_region (Zp rfl (gl_op rfl rfl rfl (op_neqNil rfl Tryz.underlying20 rfl) ?_))
 refine gl_nil (hK1 _ _ (gc_cond_t rfl (gc_region (Zp rfl (gl_callf rfl rfl rfl rfl Tryz.func18 rfl rfl rfl (given_calls x at_ _) ?_)))))
 rintro _ w8 ⟨rfl, hb8⟩
 refine ⟨_, rfl, ?_⟩
 have hS := hS.grown hb8
 refine Zp rfl (Zp rfl (Zp rfl (gl_store 0 hS el32.cellsOf.1 el32.cellsOf.2 rfl rfl rfl rfl rfl rfl rfl rfl fun w_300 hS => ?_)))
 refine gl_store 1 hS el3.cellsOf.1 el3.cellsOf.2 rfl rfl rfl rfl rfl rfl rfl rfl fun w_300 hS => ?_
 refine gl_nil (gk_endS rfl rfl ⟨rfl, rfl, hS⟩)
set_option maxRecDepth 100000 in
theorem catchP_idle (ge ga : Nat) (w : World) :
 CallsD Tryz.prog 46 #[.pointer (some ⟨ge, 0, none⟩), .pointer (some ⟨ga, 0, none⟩)] .returning w fun en u' w' =>
  en = .returned (.tuple #[]) ∧ u' = .returning ∧ w' = w := by
 refine callsD_of_wpS Tryz.func46 rfl fun c₀ cs hu => ?_
 refine wpS_seq (wpS_region ?_)
 simp [wpOpsS, go_sem, recoverD, hu, Tryz.ntmps46, Exit.thenS]
 refine wpS_of_wp (gc_of (N := ⟨11, []⟩) (e := [(2, .nilIface), (0, .pointer (some ⟨ge, 0, none⟩)), (1, .pointer (some ⟨ga, 0, none⟩))]) (Fr.of rfl (by simp) (by simp)) ?_)
 refine gc_seq fun K1 hK1 => gc_region (Zp rfl (gl_op rfl rfl rfl (op_neqNil0 rfl Tryz.underlying20 rfl) ?_))
 refine gl_nil (hK1 _ _ (gc_cond_f rfl (gc_skip (gk_endS rfl (by cases c₀; simp_all) ⟨rfl, rfl, rfl⟩))))
end Go.Proofs.YtnomlloaahoceaaGreatDoor
