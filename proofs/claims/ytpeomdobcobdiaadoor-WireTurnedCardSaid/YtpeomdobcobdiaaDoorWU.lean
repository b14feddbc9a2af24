/- The walk of WireTurned. No condition. -/
import Derived.Test.YtpeomdobcobdiaaDoorWA
import Derived.Test.YtpeomdobcobdiaaDoorTrm
namespace Go.Proofs.YtpeomdobcobdiaaDoor
open Go.RowKit
set_option linter.unusedVariables false
set_option linter.unusedSimpArgs false
theorem FrameS_calls (A : Option Addr) (c : Nat) (l : List UInt8) (w : World) {ok : Nat → Prop} (h1 : RdE w ok uB A l) (hb : l.length ≤ 1048576) :
    Calls Tryd.prog 40 ⟨[.slice A l.length c]⟩ w fun e w' => ∃ A' c', e = .returned (.tuple #[.slice A' (frameB l).length c', .int .i64 0]) ∧ Owns w' w.heap.size A' c' 5 1 (frameB l).length ((frameB l).map uB) ∧ Below w.heap.size w w' := by
  have h := Frame_calls A c l w h1 (by omega)
  rw [show frameV l = (frameB l, 0) by unfold frameV; rw [if_neg (by omega)]] at h
  exact h
theorem u8_xor (x y : UInt8) : Go.bits .xor .u8 (x.toNat : Int) (y.toNat : Int) = ((x ^^^ y).toNat : Int) := by
  show Go.IntKind.u8.wrap ((BitVec.ofInt 8 (x.toNat : Int) ^^^ BitVec.ofInt 8 (y.toNat : Int)).toNat : Int) = _
  have hx := x.toNat_lt
  have hy := y.toNat_lt
  have h1 : (BitVec.ofInt 8 (x.toNat : Int)).toNat = x.toNat := by rw [BitVec.ofInt_natCast, BitVec.toNat_ofNat]; exact Nat.mod_eq_of_lt hx
  have h2 : (BitVec.ofInt 8 (y.toNat : Int)).toNat = y.toNat := by rw [BitVec.ofInt_natCast, BitVec.toNat_ofNat]; exact Nat.mod_eq_of_lt hy
  have h3 : x.toNat ^^^ y.toNat < 2 ^ 8 := Nat.xor_lt_two_pow hx hy
  rw [BitVec.toNat_xor, h1, h2, IntKind.wrap_u8, UInt8.toNat_xor]
  omega
theorem u32_and1 (a : Nat) (ha : a < 4294967296) : Go.bits .and .u32 (a : Int) 1 = ((a % 2 : Nat) : Int) := by
  show Go.IntKind.u32.wrap ((BitVec.ofInt 32 (a : Int) &&& BitVec.ofInt 32 1).toNat : Int) = _
  have h1 : (BitVec.ofInt 32 (a : Int)).toNat = a := by rw [BitVec.ofInt_natCast, BitVec.toNat_ofNat]; exact Nat.mod_eq_of_lt ha
  have h2 : (BitVec.ofInt 32 1).toNat = 1 := by decide
  rw [BitVec.toNat_and, h1, h2, IntKind.wrap_u32]
  rw [Nat.and_one_is_mod]
  omega
theorem bit_val (k : Nat) (h : k < 8) : Value.int .u8 (IntKind.u8.wrap (1 * 2 ^ ((k : Nat) : Int).toNat)) = uB (UInt8.ofNat (2 ^ k)) := by
  rw [Int.toNat_natCast, show (1 * 2 ^ k : Int) = ((2 ^ k : Nat) : Int) by push_cast; omega, u8_wrap]
@[reducible] def kV (k : Nat) : Value := iV (k : Int)
theorem pos_len (at_ hi p i : Nat) : (pos at_ hi p i).length ≤ i := by
  induction i with
  | zero => exact Nat.le_refl 0
  | succ i ih => unfold pos; split <;> first | omega | (rw [List.length_append, List.length_singleton]; omega)
theorem cell_at {w w0 : World} {B g c n : Nat} {L : List It} {l : List UInt8} {i j : Nat} (hS : St B w0 w L) (hi : L[i]? = some (.row (some ⟨g, 0, none⟩) c 5 1 n (l.map uB))) (hj : j < l.length) :
    w.cell? ⟨g, j, none⟩ = some (uB (l.getD j 0)) := by
  obtain ⟨h1, h2⟩ := hS.rdE (l := l) hi
  obtain ⟨ad, had, _, hc⟩ := h2 (by omega)
  injection had with had
  subst had
  have := hc j (uB (l.getD j 0)) (by simp [List.getD_eq_getElem?_getD, hj])
  rwa [show (⟨g, 0, none⟩ : Addr).add j = ⟨g, j, none⟩ by unfold Addr.add; split <;> simp_all] at this
theorem flp_row (y : List UInt8) (k : Nat) : (y.map uB).set (k / 8) (uB (y.getD (k / 8) 0 ^^^ UInt8.ofNat (2 ^ (k % 8)))) = (flp y k).map uB := by
  rw [flp, List.map_set]
theorem mem_take_succ (ks : List Nat) (k j : Nat) (hj : j < ks.length) : (decide (k ∈ ks.take j) || decide ((ks.getD j 0) = k)) = decide (k ∈ ks.take (j + 1)) := by
  have : ks.take (j + 1) = ks.take j ++ [ks.getD j 0] := by
    rw [List.take_add_one, List.getD_eq_getElem?_getD, List.getElem?_eq_getElem hj]; rfl
  rw [this]
  generalize ks.getD j 0 = x
  by_cases h1 : k ∈ ks.take j <;> by_cases h2 : x = k
  · simp [h1]
  · simp [h1]
  · subst h2; simp
  · simp [h1, h2, show ¬ k = x from fun h => h2 (Eq.symm h)]
set_option maxRecDepth 100000 in
theorem WireTurned_calls (A : Option Addr) (c : Nat) (l : List UInt8) (Ab : Option Addr) (cb : Nat) (bs : List Int) (fr pt : Int) (Ah : Option Addr) (ch : Nat) (bh : List UInt8) (w : World) (hU : Tabs w) {ok1 ok2 ok3 : Nat → Prop}
    (h1 : RdE w ok1 uB A l) (hc : l.length ≤ c) (hb : l.length ≤ 140737488355328) (h2 : RdE w ok2 iV Ab bs) (hbb : bs.length ≤ 140737488355328) (hz : ∀ i, -9223372036854775808 ≤ bs.getD i 0 ∧ bs.getD i 0 ≤ 9223372036854775807)
    (hfr : -9223372036854775808 ≤ fr ∧ fr ≤ 9223372036854775807) (hpt : 0 ≤ pt ∧ pt ≤ 4294967295) (h3 : RdE w ok3 uB Ah bh) (hch : bh.length ≤ ch) (hbh : bh.length ≤ 140737488355328) :
    Calls Tryd.prog 10 ⟨[.slice A l.length c, .slice Ab bs.length cb, .int .i64 fr, .int .u32 pt, .slice Ah bh.length ch]⟩ w fun e w' => e = .returned (.bool true) ∧ Below w.heap.size w w' := by
  refine gc_enter (N := 203) Tryd.func10 rfl rfl rfl [(0, _), (1, _), (2, _), (3, _), (4, _)] rfl ?_
  have hS := St.start w
  refine gc_seq fun K1 hK1 => ?_
  refine gc_region ?_
  refine gl_op rfl rfl rfl (op_pure hT rfl) ?_
  refine gl_nil ?_
  refine hK1 _ _ ?_
  clear hK1; try clear K1
  refine gc_cut (fun a w' => Fr 203 a [(0, .slice A (l.take 20000).length c), (1, .slice Ab bs.length cb), (2, .int .i64 fr), (3, .int .u32 pt), (4, .slice Ah bh.length ch)] ∧ w = w') ?_ ?_
  · skip
    refine gc_seq fun K2 hK2 => ?_
    refine gc_region ?_
    refine gl_op rfl rfl rfl (op_pure hT rfl) ?_
    refine gl_op rfl rfl rfl (op_pure hT rfl) ?_
    refine gl_op rfl rfl rfl (op_pure hT rfl) ?_
    refine gl_nil ?_
    refine hK2 _ _ ?_
    clear hK2; try clear K2
    refine gc_cond rfl rfl (fun c29 => ?_) (fun c29 => ?_)
    · try simp only [decide_eq_true_eq, decide_eq_false_iff_not, Bool.not_eq_true', Bool.not_eq_false', Int.not_lt, Int.not_le, Nat.not_lt, Nat.not_le, Bool.true_eq, Bool.false_eq, reduceCtorEq] at c29
      refine gc_region ?_
      refine gl_op rfl rfl rfl (op_pure hT rfl) ?_
      refine gl_op rfl rfl rfl (op_slice_h hT el5 rfl rfl rfl rfl (by first | omega | (simp; omega)) (by first | omega | (simp; omega))) ?_
      refine gl_op rfl rfl rfl (op_pure hT rfl) ?_
      refine gl_nil ?_
      intro a ha
      refine ⟨ha.sub ⟨?_, rfl, rfl, rfl, rfl, trivial⟩, rfl⟩
      first
        | (show some (Value.slice A (20000 : Int).toNat c) = _; rw [List.length_take, Nat.min_eq_left (by omega)]; rfl)
        | (show some (Value.slice A l.length c) = _; rw [List.length_take, Nat.min_eq_right (by omega)])
    · try simp only [decide_eq_true_eq, decide_eq_false_iff_not, Bool.not_eq_true', Bool.not_eq_false', Int.not_lt, Int.not_le, Nat.not_lt, Nat.not_le, Bool.true_eq, Bool.false_eq, reduceCtorEq] at c29
      refine gc_skip ?_
      intro a ha
      refine ⟨ha.sub ⟨?_, rfl, rfl, rfl, rfl, trivial⟩, rfl⟩
      first
        | (show some (Value.slice A (20000 : Int).toNat c) = _; rw [List.length_take, Nat.min_eq_left (by omega)]; rfl)
        | (show some (Value.slice A l.length c) = _; rw [List.length_take, Nat.min_eq_right (by omega)])
  rintro a _ ⟨hF, rfl⟩
  refine gc_of hF ?_
  have h1 := h1.take 20000
  have hlen : (l.take 20000).length ≤ 20000 := by simp; omega
  have hc : (l.take 20000).length ≤ c := by simp; omega
  generalize l.take 20000 = l at h1 hlen hc ⊢
  refine gc_cut (fun a w' => Fr 203 a [(0, .slice A l.length c), (1, .slice Ab bs.length cb), (2, .int .i64 fr), (3, .int .u32 pt), (4, .slice Ah (bh.take 100).length ch)] ∧ w = w') ?_ ?_
  · skip
    refine gc_seq fun K3 hK3 => ?_
    refine gc_region ?_
    refine gl_op rfl rfl rfl (op_pure hT rfl) ?_
    refine gl_op rfl rfl rfl (op_pure hT rfl) ?_
    refine gl_op rfl rfl rfl (op_pure hT rfl) ?_
    refine gl_nil ?_
    refine hK3 _ _ ?_
    clear hK3; try clear K3
    refine gc_cond rfl rfl (fun c34 => ?_) (fun c34 => ?_)
    · try simp only [decide_eq_true_eq, decide_eq_false_iff_not, Bool.not_eq_true', Bool.not_eq_false', Int.not_lt, Int.not_le, Nat.not_lt, Nat.not_le, Bool.true_eq, Bool.false_eq, reduceCtorEq] at c34
      refine gc_region ?_
      refine gl_op rfl rfl rfl (op_pure hT rfl) ?_
      refine gl_op rfl rfl rfl (op_slice_h hT el5 rfl rfl rfl rfl (by first | omega | (simp; omega)) (by first | omega | (simp; omega))) ?_
      refine gl_op rfl rfl rfl (op_pure hT rfl) ?_
      refine gl_nil ?_
      intro a ha
      refine ⟨ha.sub ⟨rfl, rfl, rfl, rfl, ?_, trivial⟩, rfl⟩
      first
        | (show some (Value.slice Ah (100 : Int).toNat ch) = _; rw [List.length_take, Nat.min_eq_left (by omega)]; rfl)
        | (show some (Value.slice Ah bh.length ch) = _; rw [List.length_take, Nat.min_eq_right (by omega)])
    · try simp only [decide_eq_true_eq, decide_eq_false_iff_not, Bool.not_eq_true', Bool.not_eq_false', Int.not_lt, Int.not_le, Nat.not_lt, Nat.not_le, Bool.true_eq, Bool.false_eq, reduceCtorEq] at c34
      refine gc_skip ?_
      intro a ha
      refine ⟨ha.sub ⟨rfl, rfl, rfl, rfl, ?_, trivial⟩, rfl⟩
      first
        | (show some (Value.slice Ah (100 : Int).toNat ch) = _; rw [List.length_take, Nat.min_eq_left (by omega)]; rfl)
        | (show some (Value.slice Ah bh.length ch) = _; rw [List.length_take, Nat.min_eq_right (by omega)])
  rintro a _ ⟨hF, rfl⟩
  refine gc_of hF ?_
  have h3 := h3.take 100
  have hlh : (bh.take 100).length ≤ 100 := by simp; omega
  have hch : (bh.take 100).length ≤ ch := by simp; omega
  generalize bh.take 100 = bh at h3 hlh hch ⊢
  refine gc_seq fun K4 hK4 => ?_
  refine gc_region ?_
  refine gl_op rfl rfl rfl (op_pure hT rfl) ?_
  refine gl_callf rfl rfl rfl rfl Tryd.func40 rfl rfl rfl (FrameS_calls A c l _ h1 (by omega)) ?_
  rintro _ w39 ⟨A39, c39, rfl, hr39, hb39⟩
  refine ⟨_, rfl, ?_⟩
  have hS := hS.addRow hb39 hr39
  refine gl_op rfl rfl rfl (op_pure hT rfl) ?_
  refine gl_op rfl rfl rfl (op_pure hT rfl) ?_
  refine gl_op rfl rfl rfl (op_pure hT rfl) ?_
  refine gl_op rfl rfl rfl (op_pure hT rfl) ?_
  refine gl_op rfl rfl rfl (op_pure hT rfl) ?_
  refine gl_nil ?_
  refine hK4 _ _ ?_
  clear hK4; try clear K4
  refine gc_seq fun K5 hK5 => ?_
  refine gc_seq fun K6 hK6 => ?_
  refine gc_region ?_
  refine gl_op rfl rfl rfl (op_pure hT rfl) ?_
  refine gl_op rfl rfl rfl (op_pure hT rfl) ?_
  refine gl_spell 43 (v := .bool false) rfl (by simp) ?_
  refine gl_op rfl rfl rfl (op_pure hT rfl) ?_
  refine gl_un rfl rfl rfl rfl ?_
  refine gl_op rfl rfl rfl (op_pure hT rfl) ?_
  refine gl_un rfl rfl rfl rfl ?_
  refine gl_op rfl rfl rfl (op_pure hT rfl) ?_
  refine gl_un rfl rfl rfl rfl ?_
  refine gl_op rfl rfl rfl (op_pure hT rfl) ?_
  refine gl_un rfl rfl rfl rfl ?_
  refine gl_op rfl rfl rfl (op_pure hT rfl) ?_
  refine gl_un rfl rfl rfl rfl ?_
  first | refine gl_fit hT rfl rfl rfl rfl (by omega) ?_ | refine gl_op rfl rfl rfl (op_pure hT rfl) ?_
  refine gl_un rfl rfl rfl rfl ?_
  have hfl := frameB_len l
  refine gl_op rfl rfl rfl (op_pure hT rfl) ?_
  refine gl_spell 50 (v := .bool false) rfl (by simp; omega) ?_
  refine gl_op rfl rfl rfl (op_pure hT rfl) ?_
  refine gl_op rfl rfl rfl (op_pure hT rfl) ?_
  refine gl_un rfl rfl rfl rfl ?_
  refine gl_callf rfl rfl rfl rfl Tryd.func15 rfl rfl rfl (told_calls _ (hU.old hS)) ?_
  rintro _ w53 ⟨rfl, hb53⟩
  refine ⟨_, rfl, ?_⟩
  have hS := hS.grown hb53
  refine gl_un rfl rfl rfl rfl ?_
  refine gl_op rfl rfl rfl (op_pure hT rfl) ?_
  refine gl_op rfl rfl rfl (op_pure hT rfl) ?_
  refine gl_nil ?_
  refine hK6 _ _ ?_
  clear hK6; try clear K6
  refine gc_cond_f rfl ?_
  refine gc_skip ?_
  refine hK5 _ _ ?_
  clear hK5; try clear K5
  refine gc_seq fun K7 hK7 => ?_
  refine gc_region ?_
  refine gl_op rfl rfl rfl (op_pure hT rfl) ?_
  refine gl_append0 hT hS el5 (hS.rdE (i := 0) rfl) (allOne_uB _) rfl rfl rfl rfl rfl rfl rfl (by omega) (by omega) fun A57 c57 w57 hS => ?_
  refine gl_op rfl rfl rfl (op_pure hT rfl) ?_
  refine gl_append 1 hT hS el5 (h3.old hS) (allOne_uB _) rfl rfl rfl rfl rfl rfl rfl rfl (by omega) (by omega) fun A59 c59 w59 hS => ?_
  have hS := hS.nil 3 1
  obtain ⟨g13, rfl⟩ := Owns.addr (hS.at (i := 1) rfl) (by omega)
  have hS : St w.heap.size w w59 [.row A39 c39 5 1 (frameB l).length ((frameB l).map uB), .row (some ⟨g13, 0, none⟩) c59 5 1 ((frameB l).length + bh.length) ((fl (frameB l ++ bh) []).map uB), .row none 0 3 1 0 []] := by rw [show fl (frameB l ++ bh) [] = frameB l ++ bh from rfl, List.map_append]; exact hS
  have hyl : ∀ ks, (fl (frameB l ++ bh) ks).length = (frameB l).length + bh.length := fun ks => by rw [fl_len, List.length_append]
  have hcap1 := (hS.cap (i := 1) rfl).1
  refine gl_op rfl rfl rfl (op_pure hT rfl) ?_
  refine gl_nil ?_
  refine hK7 _ _ ?_
  clear hK7; try clear K7
  refine gc_seq fun K8 hK8 => ?_
  refine gc_region ?_
  refine gl_op rfl rfl rfl (op_pure hT rfl) ?_
  refine gl_nil ?_
  refine hK8 _ _ ?_
  clear hK8; try clear K8
  refine gc_seq fun K9 hK9 => ?_
  refine gc_region ?_
  refine gl_op rfl rfl rfl (op_pure hT rfl) ?_
  refine gl_nil ?_
  refine hK9 _ _ ?_
  clear hK9; try clear K9
  refine gc_cut (fun a w' => ∃ (ks : List Nat) (A15 : Option Addr) (c15 : Nat), Fr 203 a [(0, .slice A l.length c), (2, .int .i64 fr), (3, .int .u32 pt), (11, .slice A39 (frameB l).length c39), (13, .slice (some ⟨g13, 0, none⟩) ((frameB l).length + bh.length) c59), (14, .int .i64 (ks.length : Nat)), (15, .slice A15 ks.length c15)] ∧ ks.Nodup ∧ (∀ x ∈ ks, x < 8 * (l.length + 12)) ∧ ks.length ≤ 3 ∧
  St w.heap.size w w' [.row A39 c39 5 1 (frameB l).length ((frameB l).map uB), .row (some ⟨g13, 0, none⟩) c59 5 1 ((frameB l).length + bh.length) ((fl (frameB l ++ bh) ks).map uB), .row A15 c15 3 1 ks.length (ks.map kV)]) ?_ ?_
  · skip
    refine gc_seq fun K10 hK10 => ?_
    refine gc_region ?_
    refine gl_op rfl rfl rfl (op_pure hT rfl) ?_
    refine gl_nil ?_
    refine hK10 _ _ ?_
    clear hK10; try clear K10
    refine gc_block ?_
    refine gc_loop (fun k a w' => ∃ (i : Nat) (ks : List Nat) (A15 : Option Addr) (c15 : Nat), Fr 203 a [(0, .slice A l.length c), (1, .slice Ab bs.length cb), (2, .int .i64 fr), (3, .int .u32 pt), (11, .slice A39 (frameB l).length c39), (13, .slice (some ⟨g13, 0, none⟩) ((frameB l).length + bh.length) c59), (14, .int .i64 (ks.length : Nat)), (15, .slice A15 ks.length c15), (16, .int .i64 (i : Nat))] ∧ i ≤ bs.length ∧ k = bs.length - i + 1 ∧ ks.Nodup ∧ (∀ x ∈ ks, x < 8 * (l.length + 12)) ∧ ks.length ≤ 3 ∧
      St w.heap.size w w' [.row A39 c39 5 1 (frameB l).length ((frameB l).map uB), .row (some ⟨g13, 0, none⟩) c59 5 1 ((frameB l).length + bh.length) ((fl (frameB l ++ bh) ks).map uB), .row A15 c15 3 1 ks.length (ks.map kV)]) (bs.length + 1) ?_ ?_ ?_
    · intro a ha; exact ⟨0, [], none, 0, ha.sub ⟨rfl, rfl, rfl, rfl, rfl, rfl, rfl, rfl, rfl, trivial⟩, by omega, by omega, List.nodup_nil, (fun x hx => by cases hx), by simp, hS⟩
    · rintro a w ⟨i, _, _, _, _, h1, h2, _⟩; omega
    rintro k a w1 ⟨i, ks, A15, c15, hF, hi, hk, hnd, hkb, hk3, hS⟩
    refine gc_of hF ?_
    refine gc_seq fun K11 hK11 => ?_
    refine gc_seq fun K12 hK12 => ?_
    refine gc_region ?_
    refine gl_op rfl rfl rfl (op_pure hT rfl) ?_
    refine gl_op rfl rfl rfl (op_pure hT rfl) ?_
    refine gl_op rfl rfl rfl (op_pure hT rfl) ?_
    refine gl_op rfl rfl rfl (op_pure hT rfl) ?_
    refine gl_op rfl rfl rfl (op_pure hT rfl) ?_
    refine gl_split (t := 64) rfl (fun c64 => ?_) (fun c64 => ?_)
    · try simp only [decide_eq_true_eq, decide_eq_false_iff_not, Bool.not_eq_true', Bool.not_eq_false', Int.not_lt, Int.not_le, Nat.not_lt, Nat.not_le, Bool.true_eq, Bool.false_eq, reduceCtorEq] at c64
      refine gl_un rfl rfl rfl rfl ?_
      refine gl_op rfl rfl rfl (op_pure hT rfl) ?_
      refine gl_un rfl rfl rfl rfl ?_
      refine gl_op rfl rfl rfl (op_pure hT rfl) ?_
      refine gl_op rfl rfl rfl (op_pure hT rfl) ?_
      refine gl_nil ?_
      refine hK12 _ _ ?_
      clear hK12; try clear K12
      refine gc_cond rfl rfl (fun c67 => ?_) (fun c67 => ?_)
      · try simp only [decide_eq_true_eq, decide_eq_false_iff_not, Bool.not_eq_true', Bool.not_eq_false', Int.not_lt, Int.not_le, Nat.not_lt, Nat.not_le, Bool.true_eq, Bool.false_eq, reduceCtorEq] at c67
        refine gc_skip ?_
        refine hK11 _ _ ?_
        clear hK11; try clear K11
        refine gc_seq fun K13 hK13 => ?_
        refine gc_block ?_
        refine gc_seq fun K14 hK14 => ?_
        refine gc_region ?_
        refine gl_op rfl rfl rfl (op_pure hT rfl) ?_
        refine gl_op rfl rfl rfl (op_pure hT rfl) ?_
        have hil : i < bs.length := by omega
        refine gl_ix (0 : Int) hT (h2.old hS) rfl rfl rfl rfl rfl el3.cellsOf.1 el3.cellsOf.2 rfl (by simp) rfl (by omega) (by first | omega | (simp; omega)) fun p72 hp72 => ?_
        have hst : (bs.getD ((i : Int)).toNat 0) = bs.getD i 0 := by simp
        rw [hst] at hp72
        refine gl_op rfl rfl rfl (op_load hT rfl rfl rfl rfl hp72) ?_
        refine gl_op rfl rfl rfl (op_pure hT rfl) ?_
        refine gl_op rfl rfl rfl (op_pure hT rfl) ?_
        first | refine gl_fit hT rfl rfl rfl rfl (by omega) ?_ | refine gl_op rfl rfl rfl (op_pure hT rfl) ?_
        refine gl_callf rfl rfl rfl rfl Tryd.func26 rfl rfl rfl (Spot_calls (bs.getD i 0) _ (hz i) ⟨by omega, by omega⟩ _) ?_
        rintro _ _ ⟨rfl, rfl⟩
        refine ⟨_, rfl, ?_⟩
        rw [if_neg (by omega)]
        have hr0 := Int.emod_nonneg (bs.getD i 0) (show (8 * ((frameB l).length : Nat) : Int) ≠ 0 by omega)
        have hr1 := Int.emod_lt_of_pos (bs.getD i 0) (show (0 : Int) < (8 * ((frameB l).length : Nat) : Int) by omega)
        generalize bs.getD i 0 % (8 * ((frameB l).length : Nat) : Int) = q0 at hr0 hr1 ⊢
        obtain ⟨q, rfl⟩ : ∃ q : Nat, q0 = q := ⟨q0.toNat, by omega⟩
        refine gl_op rfl rfl rfl (op_pure hT rfl) ?_
        refine gl_nil ?_
        refine hK14 _ _ ?_
        clear hK14; try clear K14
        refine gc_seq fun K15 hK15 => ?_
        refine gc_region ?_
        refine gl_op rfl rfl rfl (op_pure hT rfl) ?_
        refine gl_nil ?_
        refine hK15 _ _ ?_
        clear hK15; try clear K15
        refine gc_seq fun K16 hK16 => ?_
        refine gc_seq fun K17 hK17 => ?_
        refine gc_region ?_
        refine gl_op rfl rfl rfl (op_pure hT rfl) ?_
        refine gl_nil ?_
        refine hK17 _ _ ?_
        clear hK17; try clear K17
        refine gc_block ?_
        refine gc_loop (fun k a w' => ∃ (j : Nat), Fr 203 a [(0, .slice A l.length c), (1, .slice Ab bs.length cb), (2, .int .i64 fr), (3, .int .u32 pt), (11, .slice A39 (frameB l).length c39), (13, .slice (some ⟨g13, 0, none⟩) ((frameB l).length + bh.length) c59), (14, .int .i64 (ks.length : Nat)), (15, .slice A15 ks.length c15), (16, .int .i64 (i : Nat)), (17, .int .i64 (q : Nat)), (18, .bool (decide (q ∈ ks.take j))), (19, .int .i64 (j : Nat))] ∧ j ≤ ks.length ∧ k = ks.length - j + 1 ∧
          St w.heap.size w w' [.row A39 c39 5 1 (frameB l).length ((frameB l).map uB), .row (some ⟨g13, 0, none⟩) c59 5 1 ((frameB l).length + bh.length) ((fl (frameB l ++ bh) ks).map uB), .row A15 c15 3 1 ks.length (ks.map kV)]) (ks.length + 1) ?_ ?_ ?_
        · intro a ha; exact ⟨0, ha.sub ⟨rfl, rfl, rfl, rfl, rfl, rfl, rfl, rfl, rfl, rfl, rfl, rfl, trivial⟩, by omega, by omega, hS⟩
        · rintro a w ⟨j, _, h1, h2, _⟩; omega
        rintro k1 a w2 ⟨j, hF, hj, hkj, hS⟩
        refine gc_of hF ?_
        refine gc_seq fun K18 hK18 => ?_
        refine gc_seq fun K19 hK19 => ?_
        refine gc_region ?_
        refine gl_op rfl rfl rfl (op_pure hT rfl) ?_
        refine gl_op rfl rfl rfl (op_pure hT rfl) ?_
        refine gl_op rfl rfl rfl (op_pure hT rfl) ?_
        refine gl_op rfl rfl rfl (op_pure hT rfl) ?_
        refine gl_nil ?_
        refine hK19 _ _ ?_
        clear hK19; try clear K19
        refine gc_cond rfl rfl (fun c81 => ?_) (fun c81 => ?_)
        · try simp only [decide_eq_true_eq, decide_eq_false_iff_not, Bool.not_eq_true', Bool.not_eq_false', Int.not_lt, Int.not_le, Nat.not_lt, Nat.not_le, Bool.true_eq, Bool.false_eq, reduceCtorEq] at c81
          refine gc_skip ?_
          refine hK18 _ _ ?_
          clear hK18; try clear K18
          refine gc_seq fun K20 hK20 => ?_
          refine gc_block ?_
          refine gc_region ?_
          refine gl_op rfl rfl rfl (op_pure hT rfl) ?_
          refine gl_op rfl rfl rfl (op_pure hT rfl) ?_
          refine gl_split (t := 85) rfl (fun c85 => ?_) (fun c85 => ?_)
          · try simp only [decide_eq_true_eq, decide_eq_false_iff_not, Bool.not_eq_true', Bool.not_eq_false', Int.not_lt, Int.not_le, Nat.not_lt, Nat.not_le, Bool.true_eq, Bool.false_eq, reduceCtorEq] at c85
            refine gl_pass rfl rfl rfl rfl rfl rfl ?_
            refine gl_pass rfl rfl rfl rfl rfl rfl ?_
            refine gl_pass rfl rfl rfl rfl rfl rfl ?_
            refine gl_pass rfl rfl rfl rfl rfl rfl ?_
            refine gl_pass rfl rfl rfl rfl rfl rfl ?_
            refine gl_pass rfl rfl rfl rfl rfl rfl ?_
            refine gl_op rfl rfl rfl (op_pure hT rfl) ?_
            refine gl_op rfl rfl rfl (op_pure hT rfl) ?_
            refine gl_nil ?_
            refine hK20 _ _ ?_
            clear hK20; try clear K20
            refine gc_region ?_
            refine gl_op rfl rfl rfl (op_pure hT rfl) ?_
            first | refine gl_fit hT rfl rfl rfl rfl (by omega) ?_ | refine gl_op rfl rfl rfl (op_pure hT rfl) ?_
            refine gl_op rfl rfl rfl (op_pure hT rfl) ?_
            refine gl_nil ?_
            intro a ha
            refine ⟨j + 1, ha.sub ⟨rfl, rfl, rfl, rfl, rfl, rfl, rfl, rfl, rfl, rfl, ?_, rfl, trivial⟩, by omega, by omega, hS⟩
            first
              | (show some (Value.bool true) = _
                 rw [← mem_take_succ ks q j (by omega), decide_eq_true c85]; rfl)
              | (show some (Value.bool (decide (((ks.getD j 0 : Nat) : Int) = (q : Int)))) = _
                 rw [← mem_take_succ ks q j (by omega), decide_eq_false c85, Bool.false_or]
                 simp only [Int.natCast_inj])
          · try simp only [decide_eq_true_eq, decide_eq_false_iff_not, Bool.not_eq_true', Bool.not_eq_false', Int.not_lt, Int.not_le, Nat.not_lt, Nat.not_le, Bool.true_eq, Bool.false_eq, reduceCtorEq] at c85
            refine gl_un rfl rfl rfl rfl ?_
            refine gl_op rfl rfl rfl (op_pure hT rfl) ?_
            refine gl_un rfl rfl rfl rfl ?_
            refine gl_op rfl rfl rfl (op_pure hT rfl) ?_
            refine gl_un rfl rfl rfl rfl ?_
            have hjl : j < ks.length := by omega
            refine gl_ix (0 : Nat) hT (hS.rdE (l := ks) (i := 2) rfl) rfl rfl rfl rfl rfl el3.cellsOf.1 el3.cellsOf.2 rfl (by simp) rfl (by omega) (by first | omega | (simp; omega)) fun p88 hp88 => ?_
            have hst2 : (ks.getD ((j : Int)).toNat 0) = ks.getD j 0 := by simp
            rw [hst2] at hp88
            refine gl_un rfl rfl rfl rfl ?_
            refine gl_op rfl rfl rfl (op_load hT rfl rfl rfl rfl hp88) ?_
            refine gl_un rfl rfl rfl rfl ?_
            refine gl_op rfl rfl rfl (op_pure hT rfl) ?_
            refine gl_un rfl rfl rfl rfl ?_
            refine gl_op rfl rfl rfl (op_pure hT rfl) ?_
            refine gl_op rfl rfl rfl (op_pure hT rfl) ?_
            refine gl_op rfl rfl rfl (op_pure hT rfl) ?_
            refine gl_nil ?_
            refine hK20 _ _ ?_
            clear hK20; try clear K20
            refine gc_region ?_
            refine gl_op rfl rfl rfl (op_pure hT rfl) ?_
            first | refine gl_fit hT rfl rfl rfl rfl (by omega) ?_ | refine gl_op rfl rfl rfl (op_pure hT rfl) ?_
            refine gl_op rfl rfl rfl (op_pure hT rfl) ?_
            refine gl_nil ?_
            intro a ha
            refine ⟨j + 1, ha.sub ⟨rfl, rfl, rfl, rfl, rfl, rfl, rfl, rfl, rfl, rfl, ?_, rfl, trivial⟩, by omega, by omega, hS⟩
            first
              | (show some (Value.bool true) = _
                 rw [← mem_take_succ ks q j (by omega), decide_eq_true c85]; rfl)
              | (show some (Value.bool (decide (((ks.getD j 0 : Nat) : Int) = (q : Int)))) = _
                 rw [← mem_take_succ ks q j (by omega), decide_eq_false c85, Bool.false_or]
                 simp only [Int.natCast_inj])
        · try simp only [decide_eq_true_eq, decide_eq_false_iff_not, Bool.not_eq_true', Bool.not_eq_false', Int.not_lt, Int.not_le, Nat.not_lt, Nat.not_le, Bool.true_eq, Bool.false_eq, reduceCtorEq] at c81
          refine gc_exit ?_
          refine hK16 _ _ ?_
          clear hK16; try clear K16
          refine gc_seq fun K21 hK21 => ?_
          refine gc_region ?_
          refine gl_op rfl rfl rfl (op_pure hT rfl) ?_
          refine gl_op rfl rfl rfl (op_pure hT rfl) ?_
          refine gl_nil ?_
          refine hK21 _ _ ?_
          clear hK21; try clear K21
          refine gc_cond rfl rfl (fun c94 => ?_) (fun c94 => ?_)
          · try simp only [decide_eq_true_eq, decide_eq_false_iff_not, Bool.not_eq_true', Bool.not_eq_false', Int.not_lt, Int.not_le, Nat.not_lt, Nat.not_le, Bool.true_eq, Bool.false_eq, reduceCtorEq] at c94
            refine gc_seq fun K22 hK22 => ?_
            refine gc_region ?_
            refine gl_op rfl rfl rfl (op_pure hT rfl) ?_
            refine gl_op rfl rfl rfl (op_pure hT rfl) ?_
            refine gl_lit hT hS el3 rfl rfl rfl rfl rfl rfl rfl rfl rfl fun g97 w97 hS => ?_
            refine gl_append 2 hT hS el3 (hS.rd (i := 3) rfl) rfl rfl rfl rfl rfl rfl rfl rfl rfl (by omega) (by omega) fun A98 c98 w98 hS => ?_
            have hS := hS.erase 3
            have hS : St w.heap.size w w98 [.row A39 c39 5 1 (frameB l).length ((frameB l).map uB), .row (some ⟨g13, 0, none⟩) c59 5 1 ((frameB l).length + bh.length) ((fl (frameB l ++ bh) ks).map uB), .row A98 c98 3 1 (ks.length + 1) (ks.map kV ++ [kV q])] := hS
            refine gl_op rfl rfl rfl (op_pure hT rfl) ?_
            refine gl_nil ?_
            refine hK22 _ _ ?_
            clear hK22; try clear K22
            refine gc_seq fun K23 hK23 => ?_
            have hj2 : j = ks.length := by omega
            have hks : ks.take j = ks := List.take_of_length_le (by omega)
            rw [hks] at c94
            have hqn : q / 8 < (fl (frameB l ++ bh) ks).length := by rw [hyl]; omega
            have hcell := cell_at hS (i := 1) rfl hqn
            refine gc_grow_end (e0 := [(0, .slice A l.length c), (1, .slice Ab bs.length cb), (2, .int .i64 fr), (3, .int .u32 pt), (11, .slice A39 (frameB l).length c39), (13, .slice (some ⟨g13, 0, none⟩) ((frameB l).length + bh.length) c59), (14, .int .i64 (ks.length : Nat)), (15, .slice A98 (ks.length + 1) c98), (16, .int .i64 (i : Nat)), (17, .int .i64 (q : Nat))]) (by kernel_rfl) ⟨rfl, rfl, rfl, rfl, rfl, rfl, rfl, rfl, rfl, rfl, trivial⟩ rfl (by kernel_rfl) (by kernel_rfl) (by kernel_rfl) (by kernel_rfl) ?_
            refine gg_op [] rfl rfl rfl (by kernel_rfl) (fun w1 hw1 => by have hS := hS.grown hw1; exact op_pure hT rfl) ?_
            refine gg_op [] rfl rfl rfl (by kernel_rfl) (fun w1 hw1 => by have hS := hS.grown hw1; exact op_pure hT rfl) ?_
            refine gg_op [100] rfl rfl rfl (by kernel_rfl) (fun w1 hw1 => by have hS := hS.grown hw1; exact op_quo hT rfl (by omega) (by omega)) ?_
            refine gg_op [] rfl rfl rfl (by kernel_rfl) (fun w1 hw1 => by have hS := hS.grown hw1; exact op_pure hT rfl) ?_
            refine gg_op [] rfl rfl rfl (by kernel_rfl) (fun w1 hw1 => by have hS := hS.grown hw1; exact op_pure hT rfl) ?_
            refine gg_op [103] rfl rfl rfl (by kernel_rfl) (fun w1 hw1 => by have hS := hS.grown hw1; exact op_quo hT rfl (by omega) (by omega)) ?_
            refine gg_op [102, 104] rfl rfl rfl (by kernel_rfl) (fun w1 hw1 => by have hS := hS.grown hw1; exact op_indexAddr hT rfl rfl el5.cellsOf.1 el5.cellsOf.2 rfl rfl (by omega) (by omega) rfl) ?_
            refine gg_spell (v := .pointer (some ⟨g13, q / 8, none⟩)) (by rw [show ((q : Int) / 8).toNat = q / 8 by omega, addr0]) ?_
            refine gg_op [105] rfl rfl rfl (by kernel_rfl) (fun w1 hw1 => by have hS := hS.grown hw1; exact op_load hT rfl rfl rfl rfl (cellOf hw1 hcell)) ?_
            refine gg_op [] rfl rfl rfl (by kernel_rfl) (fun w1 hw1 => by have hS := hS.grown hw1; exact op_pure hT rfl) ?_
            refine gg_op [107] rfl rfl rfl (by kernel_rfl) (fun w1 hw1 => by have hS := hS.grown hw1; exact op_rem hT rfl (by omega)) ?_
            refine gg_op [108] rfl rfl rfl (by kernel_rfl) (fun w1 hw1 => by have hS := hS.grown hw1; exact op_shl rfl rfl rfl (by omega) (by first | omega | (simp [IntKind.bits]; omega))) ?_
            refine gg_spell (v := uB (UInt8.ofNat (2 ^ (q % 8)))) (by rw [show (q : Int) % 8 = ((q % 8 : Nat) : Int) by omega]; exact bit_val _ (by omega)) ?_
            refine gg_op [106, 109] rfl rfl rfl (by kernel_rfl) (fun w1 hw1 => by have hS := hS.grown hw1; exact op_pure hT rfl) ?_
            refine gg_spell (v := uB ((fl (frameB l ++ bh) ks).getD (q / 8) 0 ^^^ UInt8.ofNat (2 ^ (q % 8)))) (congrArg (Value.int .u8) (u8_xor _ _)) ?_
            refine gg_op [99, 101] rfl rfl rfl (by kernel_rfl) (fun w1 hw1 => by have hS := hS.grown hw1; exact op_indexAddr hT rfl rfl el5.cellsOf.1 el5.cellsOf.2 rfl rfl (by omega) (by omega) rfl) ?_
            refine gg_spell (v := .pointer (some ⟨g13, q / 8, none⟩)) (by rw [show ((q : Int) / 8).toNat = q / 8 by omega, addr0]) ?_
            refine gg_last [111, 110] fun wr22 hwr22 => ?_
            have hS := hS.grown hwr22
            refine gl_storeR 1 hS el5.cellsOf.1 el5.cellsOf.2 rfl rfl rfl rfl rfl rfl (by omega) rfl fun ws111 hS => ?_
            have hS : St w.heap.size w ws111 [.row A39 c39 5 1 (frameB l).length ((frameB l).map uB), .row (some ⟨g13, 0, none⟩) c59 5 1 ((frameB l).length + bh.length) (((fl (frameB l ++ bh) ks).map uB).set (q / 8) (uB ((fl (frameB l ++ bh) ks).getD (q / 8) 0 ^^^ UInt8.ofNat (2 ^ (q % 8))))), .row A98 c98 3 1 (ks.length + 1) (ks.map kV ++ [kV q])] := hS
            rw [flp_row, ← fl_snoc] at hS
            refine gl_nil ?_
            refine hK23 _ _ ?_
            clear hK23; try clear K23
            refine gc_region ?_
            refine gl_op rfl rfl rfl (op_pure hT rfl) ?_
            first | refine gl_fit hT rfl rfl rfl rfl (by omega) ?_ | refine gl_op rfl rfl rfl (op_pure hT rfl) ?_
            refine gl_op rfl rfl rfl (op_pure hT rfl) ?_
            refine gl_nil ?_
            refine hK13 _ _ ?_
            clear hK13; try clear K13
            refine gc_region ?_
            refine gl_op rfl rfl rfl (op_pure hT rfl) ?_
            first | refine gl_fit hT rfl rfl rfl rfl (by omega) ?_ | refine gl_op rfl rfl rfl (op_pure hT rfl) ?_
            refine gl_op rfl rfl rfl (op_pure hT rfl) ?_
            refine gl_nil ?_
            intro a ha
            first
              | (have hc94 := c94
                 have hnm : ¬ q ∈ ks := by simpa using hc94
                 have hll : (ks ++ [q]).length = ks.length + 1 := by rw [List.length_append]; rfl
                 refine ⟨i + 1, ks ++ [q], A98, c98, ha.sub ⟨rfl, rfl, rfl, rfl, rfl, rfl, ?_, ?_, rfl, trivial⟩, by omega, by omega, ?_, ?_, ?_, ?_⟩
                 · rw [hll]; rfl
                 · rw [hll]; rfl
                 · exact List.nodup_append.2 ⟨hnd, by simp, fun x hx y hy => fun e => hnm (by rw [← List.mem_singleton.1 hy, ← e]; exact hx)⟩
                 · intro x hx
                   rcases List.mem_append.1 hx with h | h
                   · exact hkb x h
                   · have := List.mem_singleton.1 h; omega
                 · omega
                 · rw [List.map_append, hll]; exact hS)
              | exact ⟨i + 1, ks, A15, c15, ha.sub ⟨rfl, rfl, rfl, rfl, rfl, rfl, rfl, rfl, rfl, trivial⟩, by omega, by omega, hnd, hkb, hk3, hS⟩
          · try simp only [decide_eq_true_eq, decide_eq_false_iff_not, Bool.not_eq_true', Bool.not_eq_false', Int.not_lt, Int.not_le, Nat.not_lt, Nat.not_le, Bool.true_eq, Bool.false_eq, reduceCtorEq] at c94
            refine gc_skip ?_
            refine hK13 _ _ ?_
            clear hK13; try clear K13
            refine gc_region ?_
            refine gl_op rfl rfl rfl (op_pure hT rfl) ?_
            first | refine gl_fit hT rfl rfl rfl rfl (by omega) ?_ | refine gl_op rfl rfl rfl (op_pure hT rfl) ?_
            refine gl_op rfl rfl rfl (op_pure hT rfl) ?_
            refine gl_nil ?_
            intro a ha
            first
              | (have hc94 := c94
                 have hnm : ¬ q ∈ ks := by simpa using hc94
                 have hll : (ks ++ [q]).length = ks.length + 1 := by rw [List.length_append]; rfl
                 refine ⟨i + 1, ks ++ [q], A98, c98, ha.sub ⟨rfl, rfl, rfl, rfl, rfl, rfl, ?_, ?_, rfl, trivial⟩, by omega, by omega, ?_, ?_, ?_, ?_⟩
                 · rw [hll]; rfl
                 · rw [hll]; rfl
                 · exact List.nodup_append.2 ⟨hnd, by simp, fun x hx y hy => fun e => hnm (by rw [← List.mem_singleton.1 hy, ← e]; exact hx)⟩
                 · intro x hx
                   rcases List.mem_append.1 hx with h | h
                   · exact hkb x h
                   · have := List.mem_singleton.1 h; omega
                 · omega
                 · rw [List.map_append, hll]; exact hS)
              | exact ⟨i + 1, ks, A15, c15, ha.sub ⟨rfl, rfl, rfl, rfl, rfl, rfl, rfl, rfl, rfl, trivial⟩, by omega, by omega, hnd, hkb, hk3, hS⟩
      · try simp only [decide_eq_true_eq, decide_eq_false_iff_not, Bool.not_eq_true', Bool.not_eq_false', Int.not_lt, Int.not_le, Nat.not_lt, Nat.not_le, Bool.true_eq, Bool.false_eq, reduceCtorEq] at c67
        refine gc_exit ?_
        intro a ha
        exact ⟨ks, A15, c15, ha.sub ⟨rfl, rfl, rfl, rfl, rfl, rfl, rfl, trivial⟩, hnd, hkb, hk3, hS⟩
    · try simp only [decide_eq_true_eq, decide_eq_false_iff_not, Bool.not_eq_true', Bool.not_eq_false', Int.not_lt, Int.not_le, Nat.not_lt, Nat.not_le, Bool.true_eq, Bool.false_eq, reduceCtorEq] at c64
      refine gl_pass rfl rfl rfl rfl rfl rfl ?_
      refine gl_pass rfl rfl rfl rfl rfl rfl ?_
      refine gl_op rfl rfl rfl (op_pure hT rfl) ?_
      refine gl_nil ?_
      refine hK12 _ _ ?_
      clear hK12; try clear K12
      refine gc_cond_f rfl ?_
      refine gc_exit ?_
      intro a ha
      exact ⟨ks, A15, c15, ha.sub ⟨rfl, rfl, rfl, rfl, rfl, rfl, rfl, trivial⟩, hnd, hkb, hk3, hS⟩
  rintro a w1 ⟨ks, A15, c15, hF, hnd, hkb, hk3, hS⟩
  refine gc_of hF ?_
  refine gc_seq fun K24 hK24 => ?_
  refine gc_region ?_
  refine gl_op rfl rfl rfl (op_pure hT rfl) ?_
  refine gl_op rfl rfl rfl (op_pure hT rfl) ?_
  refine gl_nil ?_
  refine hK24 _ _ ?_
  clear hK24; try clear K24
  refine gc_cut (fun a w' => ∃ lo hi : Nat, Fr 203 a [(0, .slice A l.length c), (2, .int .i64 fr), (3, .int .u32 pt), (11, .slice A39 (frameB l).length c39), (13, .slice (some ⟨g13, 0, none⟩) ((frameB l).length + bh.length) c59), (14, .int .i64 (ks.length : Nat)), (15, .slice A15 ks.length c15), (20, .int .i64 (lo : Nat)), (21, .int .i64 (hi : Nat))] ∧ ((lo = 0 ∧ hi = 64) ∨ (lo = 64 ∧ hi = 8 * (l.length + 12))) ∧ w1 = w') ?_ ?_
  · skip
    refine gc_seq fun K25 hK25 => ?_
    refine gc_region ?_
    refine gl_op rfl rfl rfl (op_pure hT rfl) ?_
    refine gl_op rfl rfl rfl (op_pure hT rfl) ?_
    refine gl_op rfl rfl rfl (op_pure hT rfl) ?_
    refine gl_nil ?_
    refine hK25 _ _ ?_
    clear hK25; try clear K25
    refine gc_cond rfl rfl (fun c116 => ?_) (fun c116 => ?_)
    · try simp only [decide_eq_true_eq, decide_eq_false_iff_not, Bool.not_eq_true', Bool.not_eq_false', Int.not_lt, Int.not_le, Nat.not_lt, Nat.not_le, Bool.true_eq, Bool.false_eq, reduceCtorEq] at c116
      refine gc_region ?_
      refine gl_op rfl rfl rfl (op_pure hT rfl) ?_
      refine gl_op rfl rfl rfl (op_pure hT rfl) ?_
      first | refine gl_fit hT rfl rfl rfl rfl (by omega) ?_ | refine gl_op rfl rfl rfl (op_pure hT rfl) ?_
      refine gl_op rfl rfl rfl (op_pure hT rfl) ?_
      refine gl_op rfl rfl rfl (op_pure hT rfl) ?_
      refine gl_nil ?_
      intro a ha
      first
        | exact ⟨0, 64, ha.sub ⟨rfl, rfl, rfl, rfl, rfl, rfl, rfl, rfl, rfl, trivial⟩, .inl ⟨rfl, rfl⟩, rfl⟩
        | exact ⟨64, 8 * (l.length + 12), ha.sub ⟨rfl, rfl, rfl, rfl, rfl, rfl, rfl, rfl, by rw [← hfl]; rfl, trivial⟩, .inr ⟨rfl, rfl⟩, rfl⟩
    · try simp only [decide_eq_true_eq, decide_eq_false_iff_not, Bool.not_eq_true', Bool.not_eq_false', Int.not_lt, Int.not_le, Nat.not_lt, Nat.not_le, Bool.true_eq, Bool.false_eq, reduceCtorEq] at c116
      refine gc_skip ?_
      intro a ha
      first
        | exact ⟨0, 64, ha.sub ⟨rfl, rfl, rfl, rfl, rfl, rfl, rfl, rfl, rfl, trivial⟩, .inl ⟨rfl, rfl⟩, rfl⟩
        | exact ⟨64, 8 * (l.length + 12), ha.sub ⟨rfl, rfl, rfl, rfl, rfl, rfl, rfl, rfl, by rw [← hfl]; rfl, trivial⟩, .inr ⟨rfl, rfl⟩, rfl⟩
  rintro a _ ⟨lo, hi, hF, hlh2, rfl⟩
  refine gc_of hF ?_
  refine gc_seq fun K26 hK26 => ?_
  refine gc_region ?_
  refine gl_op rfl rfl rfl (op_pure hT rfl) ?_
  refine gl_op rfl rfl rfl (op_pure hT rfl) ?_
  refine gl_op rfl rfl rfl (op_pure hT rfl) ?_
  refine gl_spell 122 (v := .int .i64 (fr / 2)) rfl (by first | rfl | simp) ?_
  refine gl_op rfl rfl rfl (op_pure hT rfl) ?_
  refine gl_op rfl rfl rfl (op_pure hT rfl) ?_
  first | refine gl_fit hT rfl rfl rfl rfl (by omega) ?_ | refine gl_op rfl rfl rfl (op_pure hT rfl) ?_
  refine gl_callf rfl rfl rfl rfl Tryd.func26 rfl rfl rfl (Spot_calls (fr / 2) _ ⟨by omega, by omega⟩ ⟨by omega, by omega⟩ _) ?_
  rintro _ _ ⟨rfl, rfl⟩
  refine ⟨_, rfl, ?_⟩
  rw [if_neg (by omega)]
  have hr0 := Int.emod_nonneg (fr / 2) (show ((hi : Nat) - (lo : Nat) : Int) ≠ 0 by omega)
  have hr1 := Int.emod_lt_of_pos (fr / 2) (show (0 : Int) < ((hi : Nat) - (lo : Nat) : Int) by omega)
  generalize fr / 2 % ((hi : Nat) - (lo : Nat) : Int) = q0 at hr0 hr1 ⊢
  obtain ⟨q, rfl⟩ : ∃ q : Nat, q0 = q := ⟨q0.toNat, by omega⟩
  refine gl_fit hT rfl rfl rfl rfl (by omega) ?_
  obtain ⟨at_, hat⟩ : ∃ x : Nat, x = lo + q := ⟨_, rfl⟩
  refine gl_spell 127 (v := .int .i64 (at_ : Nat)) rfl (by rw [hat]; push_cast; rfl) ?_
  obtain ⟨p, rfl⟩ : ∃ p : Nat, pt = p := ⟨pt.toNat, by omega⟩
  refine gl_op rfl rfl rfl (op_pure hT rfl) ?_
  refine gl_nil ?_
  refine hK26 _ _ ?_
  clear hK26; try clear K26
  refine gc_cut (fun a w' => ∃ (Z : List Nat), Fr 203 a [(0, .slice A l.length c), (11, .slice A39 (frameB l).length c39), (13, .slice (some ⟨g13, 0, none⟩) ((frameB l).length + bh.length) c59), (14, .int .i64 (Z.length : Nat))] ∧ Z = (if ks = [] then pos at_ hi p 32 else ks) ∧
  St w.heap.size w w' [.row A39 c39 5 1 (frameB l).length ((frameB l).map uB), .row (some ⟨g13, 0, none⟩) c59 5 1 ((frameB l).length + bh.length) ((fl (frameB l ++ bh) Z).map uB), .row A15 c15 3 1 ks.length (ks.map kV)]) ?_ ?_
  · skip
    refine gc_seq fun K27 hK27 => ?_
    refine gc_region ?_
    refine gl_op rfl rfl rfl (op_pure hT rfl) ?_
    refine gl_nil ?_
    refine hK27 _ _ ?_
    clear hK27; try clear K27
    refine gc_block ?_
    refine gc_loop (fun k a w' => ∃ (i : Nat) (Z : List Nat), Fr 203 a [(0, .slice A l.length c), (3, .int .u32 (p : Nat)), (11, .slice A39 (frameB l).length c39), (13, .slice (some ⟨g13, 0, none⟩) ((frameB l).length + bh.length) c59), (14, .int .i64 (Z.length : Nat)), (15, .slice A15 ks.length c15), (21, .int .i64 (hi : Nat)), (22, .int .i64 (at_ : Nat)), (23, .int .i64 (i : Nat))] ∧ i ≤ 32 ∧ k = 33 - i ∧ Z = (if ks = [] then pos at_ hi p i else ks) ∧
      St w.heap.size w w' [.row A39 c39 5 1 (frameB l).length ((frameB l).map uB), .row (some ⟨g13, 0, none⟩) c59 5 1 ((frameB l).length + bh.length) ((fl (frameB l ++ bh) Z).map uB), .row A15 c15 3 1 ks.length (ks.map kV)]) 33 ?_ ?_ ?_
    · intro a ha
      refine ⟨0, ks, ha.sub ⟨rfl, rfl, rfl, rfl, rfl, rfl, rfl, rfl, rfl, trivial⟩, by omega, by omega, ?_, hS⟩
      split
      · assumption
      · rfl
    · rintro a w ⟨i, _, _, h1, h2, _⟩; omega
    rintro k a w1 ⟨i, Z, hF, hi32, hk, hZ, hS⟩
    have hZl : Z.length ≤ 35 := by
      rw [hZ]; split
      · have := pos_len at_ hi p i; omega
      · omega
    refine gc_of hF ?_
    refine gc_seq fun K28 hK28 => ?_
    refine gc_seq fun K29 hK29 => ?_
    refine gc_region ?_
    refine gl_op rfl rfl rfl (op_pure hT rfl) ?_
    refine gl_op rfl rfl rfl (op_pure hT rfl) ?_
    refine gl_op rfl rfl rfl (op_pure hT rfl) ?_
    refine gl_split (t := 130) rfl (fun c130 => ?_) (fun c130 => ?_)
    · try simp only [decide_eq_true_eq, decide_eq_false_iff_not, Bool.not_eq_true', Bool.not_eq_false', Int.not_lt, Int.not_le, Nat.not_lt, Nat.not_le, Bool.true_eq, Bool.false_eq, reduceCtorEq] at c130
      refine gl_un rfl rfl rfl rfl ?_
      refine gl_op rfl rfl rfl (op_pure hT rfl) ?_
      refine gl_un rfl rfl rfl rfl ?_
      refine gl_op rfl rfl rfl (op_pure hT rfl) ?_
      refine gl_un rfl rfl rfl rfl ?_
      refine gl_op rfl rfl rfl (op_pure hT rfl) ?_
      refine gl_op rfl rfl rfl (op_pure hT rfl) ?_
      refine gl_nil ?_
      refine hK29 _ _ ?_
      clear hK29; try clear K29
      refine gc_cond rfl rfl (fun c134 => ?_) (fun c134 => ?_)
      · try simp only [decide_eq_true_eq, decide_eq_false_iff_not, Bool.not_eq_true', Bool.not_eq_false', Int.not_lt, Int.not_le, Nat.not_lt, Nat.not_le, Bool.true_eq, Bool.false_eq, reduceCtorEq] at c134
        refine gc_skip ?_
        refine hK28 _ _ ?_
        clear hK28; try clear K28
        refine gc_seq fun K30 hK30 => ?_
        refine gc_block ?_
        refine gc_seq fun K31 hK31 => ?_
        refine gc_region ?_
        refine gl_op rfl rfl rfl (op_pure hT rfl) ?_
        refine gl_op rfl rfl rfl (op_pure hT rfl) ?_
        refine gl_op rfl rfl rfl (op_pure hT rfl) ?_
        refine gl_spell 139 (v := .int .u64 (i : Nat)) rfl (by rw [IntKind.wrap_u64]; congr 1; omega) ?_
        refine gl_op rfl rfl rfl (op_shr rfl rfl rfl (by omega) (by first | omega | (simp [IntKind.bits]; omega))) ?_
        refine gl_spell 140 (v := .int .u32 ((p / 2 ^ i : Nat) : Int)) rfl (by rw [Int.toNat_natCast]; push_cast; rfl) ?_
        refine gl_op rfl rfl rfl (op_pure hT rfl) ?_
        refine gl_spell 141 (v := .int .u32 ((p / 2 ^ i % 2 : Nat) : Int)) rfl (by rw [u32_and1 _ (Nat.lt_of_le_of_lt (Nat.div_le_self _ _) (by omega))]) ?_
        refine gl_op rfl rfl rfl (op_pure hT rfl) ?_
        refine gl_op rfl rfl rfl (op_pure hT rfl) ?_
        refine gl_split (t := 143) rfl (fun c143 => ?_) (fun c143 => ?_)
        · try simp only [decide_eq_true_eq, decide_eq_false_iff_not, Bool.not_eq_true', Bool.not_eq_false', Int.not_lt, Int.not_le, Nat.not_lt, Nat.not_le, Bool.true_eq, Bool.false_eq, reduceCtorEq] at c143
          refine gl_un rfl rfl rfl rfl ?_
          refine gl_op rfl rfl rfl (op_pure hT rfl) ?_
          refine gl_un rfl rfl rfl rfl ?_
          refine gl_op rfl rfl rfl (op_pure hT rfl) ?_
          refine gl_un rfl rfl rfl rfl ?_
          first | refine gl_fit hT rfl rfl rfl rfl (by omega) ?_ | refine gl_op rfl rfl rfl (op_pure hT rfl) ?_
          refine gl_un rfl rfl rfl rfl ?_
          refine gl_op rfl rfl rfl (op_pure hT rfl) ?_
          refine gl_un rfl rfl rfl rfl ?_
          refine gl_op rfl rfl rfl (op_pure hT rfl) ?_
          refine gl_op rfl rfl rfl (op_pure hT rfl) ?_
          refine gl_nil ?_
          refine hK31 _ _ ?_
          clear hK31; try clear K31
          refine gc_cond rfl rfl (fun c149 => ?_) (fun c149 => ?_)
          · try simp only [decide_eq_true_eq, decide_eq_false_iff_not, Bool.not_eq_true', Bool.not_eq_false', Int.not_lt, Int.not_le, Nat.not_lt, Nat.not_le, Bool.true_eq, Bool.false_eq, reduceCtorEq] at c149
            refine gc_seq fun K32 hK32 => ?_
            have hxn : (at_ + i) / 8 < (fl (frameB l ++ bh) Z).length := by rw [hyl]; omega
            have hcell := cell_at hS (i := 1) rfl hxn
            refine gc_grow_end (e0 := [(0, .slice A l.length c), (3, .int .u32 (p : Nat)), (11, .slice A39 (frameB l).length c39), (13, .slice (some ⟨g13, 0, none⟩) ((frameB l).length + bh.length) c59), (14, .int .i64 (Z.length : Nat)), (15, .slice A15 ks.length c15), (21, .int .i64 (hi : Nat)), (22, .int .i64 (at_ : Nat)), (23, .int .i64 (i : Nat))]) (by kernel_rfl) ⟨rfl, rfl, rfl, rfl, rfl, rfl, rfl, rfl, rfl, trivial⟩ rfl (by kernel_rfl) (by kernel_rfl) (by kernel_rfl) (by kernel_rfl) ?_
            refine gg_op [] rfl rfl rfl (by kernel_rfl) (fun w1 hw1 => by have hS := hS.grown hw1; exact op_pure hT rfl) ?_
            refine gg_op [] rfl rfl rfl (by kernel_rfl) (fun w1 hw1 => by have hS := hS.grown hw1; exact op_pure hT rfl) ?_
            refine gg_op [] rfl rfl rfl (by kernel_rfl) (fun w1 hw1 => by have hS := hS.grown hw1; exact op_pure hT rfl) ?_
            refine gg_op [151, 152] rfl rfl rfl (by kernel_rfl) (fun w1 hw1 => by have hS := hS.grown hw1; exact op_fit hT rfl (by omega)) ?_
            refine gg_op [153] rfl rfl rfl (by kernel_rfl) (fun w1 hw1 => by have hS := hS.grown hw1; exact op_quo hT rfl (by omega) (by omega)) ?_
            refine gg_op [] rfl rfl rfl (by kernel_rfl) (fun w1 hw1 => by have hS := hS.grown hw1; exact op_pure hT rfl) ?_
            refine gg_op [] rfl rfl rfl (by kernel_rfl) (fun w1 hw1 => by have hS := hS.grown hw1; exact op_pure hT rfl) ?_
            refine gg_op [] rfl rfl rfl (by kernel_rfl) (fun w1 hw1 => by have hS := hS.grown hw1; exact op_pure hT rfl) ?_
            refine gg_op [156, 157] rfl rfl rfl (by kernel_rfl) (fun w1 hw1 => by have hS := hS.grown hw1; exact op_fit hT rfl (by omega)) ?_
            refine gg_op [158] rfl rfl rfl (by kernel_rfl) (fun w1 hw1 => by have hS := hS.grown hw1; exact op_quo hT rfl (by omega) (by omega)) ?_
            refine gg_op [155, 159] rfl rfl rfl (by kernel_rfl) (fun w1 hw1 => by have hS := hS.grown hw1; exact op_indexAddr hT rfl rfl el5.cellsOf.1 el5.cellsOf.2 rfl rfl (by omega) (by omega) rfl) ?_
            refine gg_spell (v := .pointer (some ⟨g13, (at_ + i) / 8, none⟩)) (by rw [show (((at_ : Nat) : Int) + (i : Nat)) / 8 = (((at_ + i) / 8 : Nat) : Int) by omega, Int.toNat_natCast, addr0]) ?_
            refine gg_op [160] rfl rfl rfl (by kernel_rfl) (fun w1 hw1 => by have hS := hS.grown hw1; exact op_load hT rfl rfl rfl rfl (cellOf hw1 hcell)) ?_
            refine gg_op [] rfl rfl rfl (by kernel_rfl) (fun w1 hw1 => by have hS := hS.grown hw1; exact op_pure hT rfl) ?_
            refine gg_op [] rfl rfl rfl (by kernel_rfl) (fun w1 hw1 => by have hS := hS.grown hw1; exact op_pure hT rfl) ?_
            refine gg_op [162, 163] rfl rfl rfl (by kernel_rfl) (fun w1 hw1 => by have hS := hS.grown hw1; exact op_fit hT rfl (by omega)) ?_
            refine gg_op [164] rfl rfl rfl (by kernel_rfl) (fun w1 hw1 => by have hS := hS.grown hw1; exact op_rem hT rfl (by omega)) ?_
            refine gg_op [165] rfl rfl rfl (by kernel_rfl) (fun w1 hw1 => by have hS := hS.grown hw1; exact op_shl rfl rfl rfl (by omega) (by first | omega | (simp [IntKind.bits]; omega))) ?_
            refine gg_spell (v := uB (UInt8.ofNat (2 ^ ((at_ + i) % 8)))) (by rw [show (((at_ : Nat) : Int) + (i : Nat)) % 8 = (((at_ + i) % 8 : Nat) : Int) by omega]; exact bit_val _ (by omega)) ?_
            refine gg_op [161, 166] rfl rfl rfl (by kernel_rfl) (fun w1 hw1 => by have hS := hS.grown hw1; exact op_pure hT rfl) ?_
            refine gg_spell (v := uB ((fl (frameB l ++ bh) Z).getD ((at_ + i) / 8) 0 ^^^ UInt8.ofNat (2 ^ ((at_ + i) % 8)))) (congrArg (Value.int .u8) (u8_xor _ _)) ?_
            refine gg_op [150, 154] rfl rfl rfl (by kernel_rfl) (fun w1 hw1 => by have hS := hS.grown hw1; exact op_indexAddr hT rfl rfl el5.cellsOf.1 el5.cellsOf.2 rfl rfl (by omega) (by omega) rfl) ?_
            refine gg_spell (v := .pointer (some ⟨g13, (at_ + i) / 8, none⟩)) (by rw [show (((at_ : Nat) : Int) + (i : Nat)) / 8 = (((at_ + i) / 8 : Nat) : Int) by omega, Int.toNat_natCast, addr0]) ?_
            refine gg_last [168, 167] fun wr32 hwr32 => ?_
            have hS := hS.grown hwr32
            refine gl_storeR 1 hS el5.cellsOf.1 el5.cellsOf.2 rfl rfl rfl rfl rfl rfl (by rw [hyl] at hxn; exact hxn) rfl fun ws168 hS => ?_
            have hS : St w.heap.size w ws168 [.row A39 c39 5 1 (frameB l).length ((frameB l).map uB), .row (some ⟨g13, 0, none⟩) c59 5 1 ((frameB l).length + bh.length) (((fl (frameB l ++ bh) Z).map uB).set ((at_ + i) / 8) (uB ((fl (frameB l ++ bh) Z).getD ((at_ + i) / 8) 0 ^^^ UInt8.ofNat (2 ^ ((at_ + i) % 8))))), .row A15 c15 3 1 ks.length (ks.map kV)] := hS
            rw [flp_row, ← fl_snoc] at hS
            refine gl_nil ?_
            refine hK32 _ _ ?_
            clear hK32; try clear K32
            refine gc_region ?_
            refine gl_op rfl rfl rfl (op_pure hT rfl) ?_
            first | refine gl_fit hT rfl rfl rfl rfl (by omega) ?_ | refine gl_op rfl rfl rfl (op_pure hT rfl) ?_
            refine gl_op rfl rfl rfl (op_pure hT rfl) ?_
            refine gl_nil ?_
            refine hK30 _ _ ?_
            clear hK30; try clear K30
            refine gc_region ?_
            refine gl_op rfl rfl rfl (op_pure hT rfl) ?_
            first | refine gl_fit hT rfl rfl rfl rfl (by omega) ?_ | refine gl_op rfl rfl rfl (op_pure hT rfl) ?_
            refine gl_op rfl rfl rfl (op_pure hT rfl) ?_
            refine gl_nil ?_
            intro a ha
            have hks0 : ks = [] := List.eq_nil_of_length_eq_zero (by omega)
            rw [if_pos hks0] at hZ
            first
              | (have hxn' := hxn
                 have hll : (Z ++ [at_ + i]).length = Z.length + 1 := by rw [List.length_append]; rfl
                 refine ⟨i + 1, Z ++ [at_ + i], ha.sub ⟨rfl, rfl, rfl, rfl, ?_, rfl, rfl, rfl, rfl, trivial⟩, by omega, by omega, ?_, hS⟩
                 · rw [hll]; rfl
                 · rw [if_pos hks0, pos, if_pos ⟨by omega, by omega⟩, hZ])
              | (refine ⟨i + 1, Z, ha.sub ⟨rfl, rfl, rfl, rfl, rfl, rfl, rfl, rfl, rfl, trivial⟩, by omega, by omega, ?_, hS⟩
                 rw [if_pos hks0, pos, if_neg (by omega), hZ])
          · try simp only [decide_eq_true_eq, decide_eq_false_iff_not, Bool.not_eq_true', Bool.not_eq_false', Int.not_lt, Int.not_le, Nat.not_lt, Nat.not_le, Bool.true_eq, Bool.false_eq, reduceCtorEq] at c149
            refine gc_skip ?_
            refine hK30 _ _ ?_
            clear hK30; try clear K30
            refine gc_region ?_
            refine gl_op rfl rfl rfl (op_pure hT rfl) ?_
            first | refine gl_fit hT rfl rfl rfl rfl (by omega) ?_ | refine gl_op rfl rfl rfl (op_pure hT rfl) ?_
            refine gl_op rfl rfl rfl (op_pure hT rfl) ?_
            refine gl_nil ?_
            intro a ha
            have hks0 : ks = [] := List.eq_nil_of_length_eq_zero (by omega)
            rw [if_pos hks0] at hZ
            first
              | (have hxn' := hxn
                 have hll : (Z ++ [at_ + i]).length = Z.length + 1 := by rw [List.length_append]; rfl
                 refine ⟨i + 1, Z ++ [at_ + i], ha.sub ⟨rfl, rfl, rfl, rfl, ?_, rfl, rfl, rfl, rfl, trivial⟩, by omega, by omega, ?_, hS⟩
                 · rw [hll]; rfl
                 · rw [if_pos hks0, pos, if_pos ⟨by omega, by omega⟩, hZ])
              | (refine ⟨i + 1, Z, ha.sub ⟨rfl, rfl, rfl, rfl, rfl, rfl, rfl, rfl, rfl, trivial⟩, by omega, by omega, ?_, hS⟩
                 rw [if_pos hks0, pos, if_neg (by omega), hZ])
        · try simp only [decide_eq_true_eq, decide_eq_false_iff_not, Bool.not_eq_true', Bool.not_eq_false', Int.not_lt, Int.not_le, Nat.not_lt, Nat.not_le, Bool.true_eq, Bool.false_eq, reduceCtorEq] at c143
          refine gl_pass rfl rfl rfl rfl rfl rfl ?_
          refine gl_pass rfl rfl rfl rfl rfl rfl ?_
          refine gl_pass rfl rfl rfl rfl rfl rfl ?_
          refine gl_pass rfl rfl rfl rfl rfl rfl ?_
          refine gl_pass rfl rfl rfl rfl rfl rfl ?_
          refine gl_op rfl rfl rfl (op_pure hT rfl) ?_
          refine gl_nil ?_
          refine hK31 _ _ ?_
          clear hK31; try clear K31
          refine gc_cond_f rfl ?_
          refine gc_skip ?_
          refine hK30 _ _ ?_
          clear hK30; try clear K30
          refine gc_region ?_
          refine gl_op rfl rfl rfl (op_pure hT rfl) ?_
          first | refine gl_fit hT rfl rfl rfl rfl (by omega) ?_ | refine gl_op rfl rfl rfl (op_pure hT rfl) ?_
          refine gl_op rfl rfl rfl (op_pure hT rfl) ?_
          refine gl_nil ?_
          intro a ha
          have hks0 : ks = [] := List.eq_nil_of_length_eq_zero (by omega)
          rw [if_pos hks0] at hZ
          first
            | (have hxn' := hxn
               have hll : (Z ++ [at_ + i]).length = Z.length + 1 := by rw [List.length_append]; rfl
               refine ⟨i + 1, Z ++ [at_ + i], ha.sub ⟨rfl, rfl, rfl, rfl, ?_, rfl, rfl, rfl, rfl, trivial⟩, by omega, by omega, ?_, hS⟩
               · rw [hll]; rfl
               · rw [if_pos hks0, pos, if_pos ⟨by omega, by omega⟩, hZ])
            | (refine ⟨i + 1, Z, ha.sub ⟨rfl, rfl, rfl, rfl, rfl, rfl, rfl, rfl, rfl, trivial⟩, by omega, by omega, ?_, hS⟩
               rw [if_pos hks0, pos, if_neg (by omega), hZ])
      · try simp only [decide_eq_true_eq, decide_eq_false_iff_not, Bool.not_eq_true', Bool.not_eq_false', Int.not_lt, Int.not_le, Nat.not_lt, Nat.not_le, Bool.true_eq, Bool.false_eq, reduceCtorEq] at c134
        refine gc_exit ?_
        intro a ha
        refine ⟨Z, ha.sub ⟨rfl, rfl, rfl, rfl, trivial⟩, ?_, hS⟩
        rw [hZ]
        split
        · rename_i h
          have hk0 : ks.length = 0 := by rw [h]; rfl
          by_cases h32 : i = 32
          · subst h32; rfl
          · omega
        · rfl
    · try simp only [decide_eq_true_eq, decide_eq_false_iff_not, Bool.not_eq_true', Bool.not_eq_false', Int.not_lt, Int.not_le, Nat.not_lt, Nat.not_le, Bool.true_eq, Bool.false_eq, reduceCtorEq] at c130
      refine gl_pass rfl rfl rfl rfl rfl rfl ?_
      refine gl_pass rfl rfl rfl rfl rfl rfl ?_
      refine gl_pass rfl rfl rfl rfl rfl rfl ?_
      refine gl_op rfl rfl rfl (op_pure hT rfl) ?_
      refine gl_nil ?_
      refine hK29 _ _ ?_
      clear hK29; try clear K29
      refine gc_cond_f rfl ?_
      refine gc_exit ?_
      intro a ha
      refine ⟨Z, ha.sub ⟨rfl, rfl, rfl, rfl, trivial⟩, ?_, hS⟩
      rw [hZ]
      split
      · rename_i h
        have hk0 : ks.length = 0 := by rw [h]; rfl
        by_cases h32 : i = 32
        · subst h32; rfl
        · omega
      · rfl
  rintro a w1 ⟨Z, hF, hZ, hS⟩
  refine gc_of hF ?_
  have hX : (Z = [] ∧ readFrameV (fl (frameB l ++ bh) Z) 0 = (l, ((0 + (l.length + 12) : Nat) : Int), 0)) ∨ (Z ≠ [] ∧ readFrameV (fl (frameB l ++ bh) Z) 0 = ([], 0, 16)) := by
    by_cases hZ0 : Z = []
    · left
      refine ⟨hZ0, ?_⟩
      have h := readFrame_frame [] l bh (by omega)
      rw [hZ0]
      exact h
    · right
      refine ⟨hZ0, ?_⟩
      by_cases hks0 : ks = []
      · rw [if_pos hks0] at hZ
        rw [hZ] at hZ0 ⊢
        exact turned_pos l bh (by omega) at_ hi p (by omega) hZ0
      · rw [if_neg hks0] at hZ
        rw [hZ]
        exact turned_bits l bh (by omega) ks hkb hnd hks0 hk3
  refine gc_seq fun K33 hK33 => ?_
  refine gc_region ?_
  refine gl_op rfl rfl rfl (op_pure hT rfl) ?_
  have hylz := hyl Z
  refine gl_callf rfl rfl rfl rfl Tryd.func42 rfl rfl rfl (ReadFrameN_calls (some ⟨g13, 0, none⟩) ((frameB l).length + bh.length) c59 (fl (frameB l ++ bh) Z) 0 _ (hS.rdE (i := 1) rfl) (by omega) (by omega) (by omega)) ?_
  rintro _ w173 ⟨A173, c173, rfl, hr173, hb173⟩
  refine ⟨_, rfl, ?_⟩
  have hS := hS.addRow hb173 hr173
  generalize readFrameV (fl (frameB l ++ bh) Z) 0 = X at hS hX ⊢
  refine gl_op rfl rfl rfl (op_pure hT rfl) ?_
  refine gl_op rfl rfl rfl (op_pure hT rfl) ?_
  refine gl_op rfl rfl rfl (op_pure hT rfl) ?_
  refine gl_op rfl rfl rfl (op_pure hT rfl) ?_
  refine gl_op rfl rfl rfl (op_pure hT rfl) ?_
  refine gl_op rfl rfl rfl (op_pure hT rfl) ?_
  refine gl_op rfl rfl rfl (op_pure hT rfl) ?_
  refine gl_nil ?_
  refine hK33 _ _ ?_
  clear hK33; try clear K33
  refine gc_seq fun K34 hK34 => ?_
  refine gc_seq fun K35 hK35 => ?_
  refine gc_region ?_
  refine gl_op rfl rfl rfl (op_pure hT rfl) ?_
  refine gl_op rfl rfl rfl (op_pure hT rfl) ?_
  refine gl_nil ?_
  refine hK35 _ _ ?_
  clear hK35; try clear K35
  refine gc_cond rfl rfl (fun c178 => ?_) (fun c178 => ?_)
  · try simp only [decide_eq_true_eq, decide_eq_false_iff_not, Bool.not_eq_true', Bool.not_eq_false', Int.not_lt, Int.not_le, Nat.not_lt, Nat.not_le, Bool.true_eq, Bool.false_eq, reduceCtorEq] at c178
    have hZ0 : Z = [] := List.eq_nil_of_length_eq_zero (by omega)
    have hX : X = (l, ((0 + (l.length + 12) : Nat) : Int), 0) := by
      rcases hX with h | h
      · exact h.2
      · exact absurd hZ0 h.1
    subst hX
    refine gc_seq fun K36 hK36 => ?_
    refine gc_region ?_
    refine gl_op rfl rfl rfl (op_pure hT rfl) ?_
    refine gl_op rfl rfl rfl (op_pure hT rfl) ?_
    refine gl_op rfl rfl rfl (op_pure hT rfl) ?_
    refine gl_un rfl rfl rfl rfl ?_
    refine gl_op rfl rfl rfl (op_pure hT rfl) ?_
    refine gl_un rfl rfl rfl rfl ?_
    refine gl_op rfl rfl rfl (op_pure hT rfl) ?_
    refine gl_un rfl rfl rfl rfl ?_
    refine gl_op rfl rfl rfl (op_pure hT rfl) ?_
    refine gl_un rfl rfl rfl rfl ?_
    refine gl_op rfl rfl rfl (op_pure hT rfl) ?_
    refine gl_spell 185 (v := .bool true) rfl (by simp; omega) ?_
    refine gl_op rfl rfl rfl (op_pure hT rfl) ?_
    refine gl_op rfl rfl rfl (op_pure hT rfl) ?_
    refine gl_un rfl rfl rfl rfl ?_
    refine gl_op rfl rfl rfl (op_pure hT rfl) ?_
    refine gl_un rfl rfl rfl rfl ?_
    refine gl_op rfl rfl rfl (op_pure hT rfl) ?_
    refine gl_un rfl rfl rfl rfl ?_
    refine gl_callf rfl rfl rfl rfl Tryd.func18 rfl rfl rfl (Same_calls _ _ _ _ l l _ (hS.rdE (i := 3) rfl) (h1.old hS) (by omega)) ?_
    rintro _ _ ⟨rfl, n190, rfl⟩
    refine ⟨_, rfl, ?_⟩
    have hS := hS.dr n190
    refine gl_spell 190 (v := .bool true) rfl (by simp) ?_
    refine gl_op rfl rfl rfl (op_pure hT rfl) ?_
    refine gl_op rfl rfl rfl (op_pure hT rfl) ?_
    refine gl_nil ?_
    refine hK36 _ _ ?_
    clear hK36; try clear K36
    refine gc_ret ?_
    try simp only [x_then_ret, x_block_ret]
    refine gk_ret1 rfl rfl ?_
    exact ⟨rfl, hS.below⟩
  · try simp only [decide_eq_true_eq, decide_eq_false_iff_not, Bool.not_eq_true', Bool.not_eq_false', Int.not_lt, Int.not_le, Nat.not_lt, Nat.not_le, Bool.true_eq, Bool.false_eq, reduceCtorEq] at c178
    have hZ0 : Z ≠ [] := fun h => by rw [h] at c178; simp at c178
    have hX : X = ([], 0, 16) := by
      rcases hX with h | h
      · exact absurd h.1 hZ0
      · exact h.2
    subst hX
    refine gc_skip ?_
    refine hK34 _ _ ?_
    clear hK34; try clear K34
    refine gc_seq fun K37 hK37 => ?_
    refine gc_region ?_
    refine gl_op rfl rfl rfl (op_pure hT rfl) ?_
    refine gl_op rfl rfl rfl (op_pure hT rfl) ?_
    refine gl_op rfl rfl rfl (op_pure hT rfl) ?_
    refine gl_un rfl rfl rfl rfl ?_
    refine gl_op rfl rfl rfl (op_pure hT rfl) ?_
    refine gl_un rfl rfl rfl rfl ?_
    refine gl_op rfl rfl rfl (op_pure hT rfl) ?_
    refine gl_op rfl rfl rfl (op_pure hT rfl) ?_
    refine gl_op rfl rfl rfl (op_pure hT rfl) ?_
    refine gl_un rfl rfl rfl rfl ?_
    refine gl_op rfl rfl rfl (op_pure hT rfl) ?_
    refine gl_un rfl rfl rfl rfl ?_
    refine gl_op rfl rfl rfl (op_pure hT rfl) ?_
    refine gl_un rfl rfl rfl rfl ?_
    refine gl_op rfl rfl rfl (op_pure hT rfl) ?_
    refine gl_op rfl rfl rfl (op_pure hT rfl) ?_
    refine gl_op rfl rfl rfl (op_pure hT rfl) ?_
    refine gl_nil ?_
    refine hK37 _ _ ?_
    clear hK37; try clear K37
    refine gc_ret ?_
    try simp only [x_then_ret, x_block_ret]
    refine gk_ret1 rfl rfl ?_
    exact ⟨rfl, hS.below⟩
end Go.Proofs.YtpeomdobcobdiaaDoor
