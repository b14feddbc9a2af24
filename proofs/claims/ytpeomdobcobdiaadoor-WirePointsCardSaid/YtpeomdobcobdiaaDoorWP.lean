/- The walk of WirePoints, and what rows of forms are. No condition. -/
import Derived.Test.YtpeomdobcobdiaaDoorW10
namespace Go.Proofs.YtpeomdobcobdiaaDoor
open Go.RowKit
set_option linter.unusedVariables false
set_option linter.unusedSimpArgs false
theorem bN_strB (l : List UInt8) (i : Nat) : bN (strB l) i = (l.getD i 0).toNat := by unfold bN; rw [strB_toList]
theorem getD_mid (pre q rest : List UInt8) (k : Nat) (h : k < q.length) : (pre ++ q ++ rest).getD (pre.length + k) 0 = q.getD k 0 := by
  rw [List.getD_eq_getElem?_getD, List.getD_eq_getElem?_getD, List.append_assoc, List.getElem?_append_right (by omega), show pre.length + k - pre.length = k by omega, List.getElem?_append_left h]
theorem toB_nat {x : Int} (h0 : 0 ≤ x) (h1 : x < 256) : (toB x).toNat = x.toNat := by have := toB_toNat h0 h1; omega
/-- A code point's form is read as that code point. -/
theorem decode_point (pre rest : List UInt8) (p : Int) (h : pointB p ≠ []) : Utf8.decode (strB (pre ++ pointB p ++ rest)) pre.length = (p.toNat, (pointB p).length) ∧ 0 ≤ p ∧ (p < 128 ↔ (pointB p).length = 1) := by
  have hd := decode_bN (strB (pre ++ pointB p ++ rest)) pre.length
  have hb : ∀ k, k < (pointB p).length → bN (strB (pre ++ pointB p ++ rest)) (pre.length + k) = ((pointB p).getD k 0).toNat := fun k hk => by rw [bN_strB, getD_mid _ _ _ _ hk]
  have hsz : (strB (pre ++ pointB p ++ rest)).size = pre.length + (pointB p).length + rest.length := by rw [strB_size]; simp; omega
  by_cases c0 : p < 0 ∨ 1114111 < p ∨ (55296 ≤ p ∧ p ≤ 57343)
  · exact absurd (pointB_none c0) h
  by_cases c1 : p < 128
  · have e := pointB_1 (by omega) c1
    rw [e] at hb hsz hd ⊢
    have b0 := hb 0 (by simp)
    simp only [Nat.add_zero, List.getD_cons_zero, toB_nat (show 0 ≤ p by omega) (show p < 256 by omega)] at b0
    rw [if_pos (by omega)] at hd
    exact ⟨by rw [hd, b0]; rfl, by omega, by simp [c1]⟩
  by_cases c2 : p < 2048
  · have e := pointB_2 (by omega) c2
    rw [e] at hb hsz hd ⊢
    have b0 := hb 0 (by simp)
    have b1 := hb 1 (by simp)
    simp only [Nat.add_zero, List.getD_cons_zero, List.getD_cons_succ, toB_nat (show 0 ≤ 192 + p / 64 by omega) (show 192 + p / 64 < 256 by omega), toB_nat (show 0 ≤ 128 + p % 64 by omega) (show 128 + p % 64 < 256 by omega)] at b0 b1
    simp only [List.length_cons, List.length_nil] at hsz
    rw [if_neg (by omega), if_pos (by omega), if_pos (by omega)] at hd
    refine ⟨by rw [hd]; simp only [List.length_cons, List.length_nil]; congr 1; omega, by omega, by simp [c1]⟩
  by_cases c3 : p < 65536
  · have e := pointB_3 (by omega) c3 (by omega)
    rw [e] at hb hsz hd ⊢
    have b0 := hb 0 (by simp)
    have b1 := hb 1 (by simp)
    have b2 := hb 2 (by simp)
    simp only [Nat.add_zero, List.getD_cons_zero, List.getD_cons_succ, toB_nat (show 0 ≤ 224 + p / 4096 by omega) (show 224 + p / 4096 < 256 by omega), toB_nat (show 0 ≤ 128 + p / 64 % 64 by omega) (show 128 + p / 64 % 64 < 256 by omega), toB_nat (show 0 ≤ 128 + p % 64 by omega) (show 128 + p % 64 < 256 by omega)] at b0 b1 b2
    simp only [List.length_cons, List.length_nil] at hsz
    simp only [valid_iff] at hd
    rw [if_neg (by omega), if_neg (by omega), if_pos (by omega), if_pos (by omega)] at hd
    refine ⟨by rw [hd]; simp only [List.length_cons, List.length_nil]; congr 1; omega, by omega, by simp [c1]⟩
  · have e := pointB_4 (p := p) (by omega) (by omega)
    rw [e] at hb hsz hd ⊢
    have b0 := hb 0 (by simp)
    have b1 := hb 1 (by simp)
    have b2 := hb 2 (by simp)
    have b3 := hb 3 (by simp)
    simp only [Nat.add_zero, List.getD_cons_zero, List.getD_cons_succ, toB_nat (show 0 ≤ 240 + p / 262144 by omega) (show 240 + p / 262144 < 256 by omega), toB_nat (show 0 ≤ 128 + p / 4096 % 64 by omega) (show 128 + p / 4096 % 64 < 256 by omega), toB_nat (show 0 ≤ 128 + p / 64 % 64 by omega) (show 128 + p / 64 % 64 < 256 by omega), toB_nat (show 0 ≤ 128 + p % 64 by omega) (show 128 + p % 64 < 256 by omega)] at b0 b1 b2 b3
    simp only [List.length_cons, List.length_nil] at hsz
    simp only [valid_iff] at hd
    rw [if_neg (by omega), if_neg (by omega), if_neg (by omega), if_pos (by omega), if_pos (by omega)] at hd
    refine ⟨by rw [hd]; simp only [List.length_cons, List.length_nil]; congr 1; omega, by omega, by simp [c1]⟩
def formsB (ps : List Int) : List UInt8 := (ps.map pointB).flatten
def countP (ps : List Int) : Nat := (ps.filter fun p => !(pointB p).isEmpty).length
theorem pointB_le (p : Int) : (pointB p).length ≤ 4 := by unfold pointB; repeat' split
                                                          all_goals simp
theorem runes_forms : ∀ (ps : List Int) (pre : List UInt8) (f n : Nat), (formsB ps).length < f → runesFrom (strB (pre ++ formsB ps)) f pre.length n = some (n + countP ps) := by
  intro ps
  induction ps with
  | nil => intro pre f n hf; rw [runesFrom_end (by rw [strB_size]; simp [formsB])]; simp [countP]
  | cons p ps ih =>
    intro pre f n hf
    have e1 : formsB (p :: ps) = pointB p ++ formsB ps := by simp [formsB]
    rw [e1] at hf ⊢
    by_cases hp : pointB p = []
    · rw [hp, List.nil_append]
      rw [hp, List.nil_append] at hf
      rw [ih pre f n hf]
      simp [countP, hp]
    · obtain ⟨hd, h0, h1⟩ := decode_point pre (formsB ps) p hp
      have hpos : 0 < (pointB p).length := List.length_pos_iff.2 hp
      rw [List.length_append] at hf
      obtain ⟨f, rfl⟩ : ∃ f', f = f' + 1 := ⟨f - 1, by omega⟩
      rw [← List.append_assoc]
      rw [runesFrom_more (by rw [strB_size]; simp; omega) (by rw [hd]; simp only; omega), hd]
      have := ih (pre ++ pointB p) f (n + 1) (by omega)
      rw [List.length_append] at this
      simp only
      rw [this]
      have e2 : countP (p :: ps) = countP ps + 1 := by
        unfold countP
        rw [List.filter_cons_of_pos (by simpa using hp)]; simp
      rw [e2]; congr 1; omega
theorem runesV_forms (ps : List Int) : runesV (strB (formsB ps)) = ((countP ps : Int), true) := by
  unfold runesV
  have := runes_forms ps [] ((strB (formsB ps)).size + 1) 0 (by rw [strB_size]; omega)
  simp only [List.nil_append, List.length_nil, Nat.zero_add] at this
  rw [this]
theorem runesV_false (s : ByteArray) (h : (runesV s).2 = false) : (runesV s).1 = 0 := by
  unfold runesV at h ⊢
  split
  · rfl
  · rename_i n hn; rw [hn] at h; simp at h
theorem forms_take (ps : List Int) (i : Nat) (h : i < ps.length) : formsB (ps.take (i + 1)) = formsB (ps.take i) ++ pointB (ps.getD i 0) := by
  unfold formsB
  rw [List.take_add_one, List.getElem?_eq_getElem h, List.getD_eq_getElem?_getD, List.getElem?_eq_getElem h, List.map_append, List.flatten_append]
  simp only [Option.toList_some, List.map_cons, List.map_nil, List.flatten_cons, List.flatten_nil, List.append_nil, Option.getD_some]
theorem count_take (ps : List Int) (i : Nat) (h : i < ps.length) : countP (ps.take (i + 1)) = countP (ps.take i) + (if (pointB (ps.getD i 0)).length = 0 then 0 else 1) := by
  unfold countP
  rw [List.take_add_one, List.getElem?_eq_getElem h, List.getD_eq_getElem?_getD, List.getElem?_eq_getElem h, List.filter_append, List.length_append]
  simp only [Option.toList_some, Option.getD_some]
  congr 1
  by_cases hp : pointB ps[i] = []
  · simp [hp]
  · have : (pointB ps[i]).length ≠ 0 := by intro h; exact hp (List.eq_nil_of_length_eq_zero h)
    rw [if_neg this, List.filter_cons_of_pos (by simpa using hp)]; simp
theorem forms_len (ps : List Int) : ∀ i, (formsB (ps.take i)).length ≤ 4 * i := by
  intro i
  induction i with
  | zero => simp [formsB]
  | succ i ih =>
    by_cases h : i < ps.length
    · rw [forms_take _ _ h, List.length_append]
      have := pointB_le (ps.getD i 0)
      omega
    · rw [List.take_of_length_le (by omega)]
      rw [List.take_of_length_le (by omega)] at ih
      omega
theorem WirePoints_calls (A : Option Addr) (c : Nat) (ps : List Int) (at_ by_ kind : Int) (w : World) (hU : Tabs w) {ok : Nat → Prop} (h1 : RdE w ok iV A ps) (hz : ∀ i, -9223372036854775808 ≤ ps.getD i 0 ∧ ps.getD i 0 ≤ 9223372036854775807) (hc : ps.length ≤ c) (hb : ps.length ≤ 4611686018427387904)
    (ha : -9223372036854775808 ≤ at_ ∧ at_ ≤ 9223372036854775807) :
    Calls Tryd.prog 5 ⟨[.slice A ps.length c, .int .i64 at_, .int .i64 by_, .int .i64 kind]⟩ w fun e w' => e = .returned (.bool true) ∧ Below w.heap.size w w' := by
  refine gc_enter (N := 135) Tryd.func5 rfl rfl rfl [(0, _), (1, _), (2, _), (3, _)] rfl ?_
  have hS := St.start w
  refine gc_seq fun K1 hK1 => ?_
  refine gc_region ?_
  refine gl_op rfl rfl rfl (op_pure hT rfl) ?_
  refine gl_nil ?_
  refine hK1 _ _ ?_
  clear hK1; try clear K1
  refine gc_cut (fun a w' => w = w' ∧ Fr 135 a [(0, .slice A (ps.take 200).length c), (1, .int .i64 at_), (2, .int .i64 by_), (3, .int .i64 kind)]) ?_ ?_
  · skip
    refine gc_seq fun K2 hK2 => ?_
    refine gc_region ?_
    refine gl_op rfl rfl rfl (op_pure hT rfl) ?_
    refine gl_op rfl rfl rfl (op_pure hT rfl) ?_
    refine gl_op rfl rfl rfl (op_pure hT rfl) ?_
    refine gl_nil ?_
    refine hK2 _ _ ?_
    clear hK2; try clear K2
    refine gc_cond rfl rfl (fun c20 => ?_) (fun c20 => ?_)
    · try simp only [decide_eq_true_eq, decide_eq_false_iff_not, Bool.not_eq_true', Bool.not_eq_false', Int.not_lt, Int.not_le, Nat.not_lt, Nat.not_le, Bool.true_eq, Bool.false_eq, reduceCtorEq] at c20
      refine gc_region ?_
      refine gl_op rfl rfl rfl (op_pure hT rfl) ?_
      refine gl_op rfl rfl rfl (op_slice_h hT el3 rfl rfl rfl rfl (by first | omega | (simp; omega)) (by first | omega | (simp; omega))) ?_
      refine gl_op rfl rfl rfl (op_pure hT rfl) ?_
      refine gl_nil ?_
      intro a ha
      refine ⟨rfl, ha.sub ⟨?_, rfl, rfl, rfl, trivial⟩⟩
      first
        | (show some (Value.slice A (200 : Int).toNat c) = _; rw [List.length_take, Nat.min_eq_left (by omega)]; rfl)
        | (show some (Value.slice A ps.length c) = _; rw [List.length_take, Nat.min_eq_right (by omega)])
    · try simp only [decide_eq_true_eq, decide_eq_false_iff_not, Bool.not_eq_true', Bool.not_eq_false', Int.not_lt, Int.not_le, Nat.not_lt, Nat.not_le, Bool.true_eq, Bool.false_eq, reduceCtorEq] at c20
      refine gc_skip ?_
      intro a ha
      refine ⟨rfl, ha.sub ⟨?_, rfl, rfl, rfl, trivial⟩⟩
      first
        | (show some (Value.slice A (200 : Int).toNat c) = _; rw [List.length_take, Nat.min_eq_left (by omega)]; rfl)
        | (show some (Value.slice A ps.length c) = _; rw [List.length_take, Nat.min_eq_right (by omega)])
  rintro a _ ⟨rfl, hF⟩
  refine gc_of hF ?_
  have h1 := h1.take 200
  have hz : ∀ i, -9223372036854775808 ≤ (ps.take 200).getD i 0 ∧ (ps.take 200).getD i 0 ≤ 9223372036854775807 := by
    intro i
    by_cases h : i < 200
    · have e1 : (ps.take 200).getD i 0 = ps.getD i 0 := by simp [List.getD_eq_getElem?_getD, List.getElem?_take, h]
      rw [e1]; exact hz i
    · have e1 : (ps.take 200).getD i 0 = 0 := by rw [List.getD_eq_getElem?_getD, List.getElem?_eq_none (by simp; omega)]; rfl
      rw [e1]; omega
  have hlen : (ps.take 200).length ≤ 200 := by simp; omega
  generalize ps.take 200 = ps at h1 hz hlen ⊢
  refine gc_seq fun K3 hK3 => ?_
  refine gc_region ?_
  refine gl_op rfl rfl rfl (op_pure hT rfl) ?_
  refine gl_nil ?_
  refine hK3 _ _ ?_
  clear hK3; try clear K3
  refine gc_seq fun K4 hK4 => ?_
  refine gc_region ?_
  refine gl_op rfl rfl rfl (op_pure hT rfl) ?_
  refine gl_nil ?_
  refine hK4 _ _ ?_
  clear hK4; try clear K4
  refine gc_seq fun K5 hK5 => ?_
  refine gc_seq fun K6 hK6 => ?_
  refine gc_region ?_
  refine gl_op rfl rfl rfl (op_pure hT rfl) ?_
  refine gl_nil ?_
  refine hK6 _ _ ?_
  clear hK6; try clear K6
  refine gc_block ?_
  have hS := hS.nil 5 1
  refine gc_loop (fun k a w' => ∃ (i : Nat) (A9 : Option Addr) (c9 : Nat), Fr 135 a [(0, .slice A ps.length c), (1, .int .i64 at_), (2, .int .i64 by_), (3, .int .i64 kind), (9, .slice A9 (formsB (ps.take i)).length c9), (10, .int .i64 (countP (ps.take i) : Nat)), (11, .int .i64 i)] ∧ i ≤ ps.length ∧ k = ps.length - i + 1 ∧ countP (ps.take i) ≤ i ∧
    St w.heap.size w w' [.row A9 c9 5 1 (formsB (ps.take i)).length ((formsB (ps.take i)).map uB)]) (ps.length + 1) ?_ ?_ ?_
  · intro a ha; exact ⟨0, _, _, ha.sub ⟨rfl, rfl, rfl, rfl, rfl, rfl, rfl, trivial⟩, by omega, by omega, by simp [countP], hS⟩
  · rintro a w ⟨i, _, _, _, h1, h2, _⟩; omega
  rintro k a w1 ⟨i, A9, c9, hF, hi, hk, hcn, hS⟩
  refine gc_of hF ?_
  have hfl := forms_len ps i
  refine gc_seq fun K7 hK7 => ?_
  refine gc_seq fun K8 hK8 => ?_
  refine gc_region ?_
  refine gl_op rfl rfl rfl (op_pure hT rfl) ?_
  refine gl_op rfl rfl rfl (op_pure hT rfl) ?_
  refine gl_op rfl rfl rfl (op_pure hT rfl) ?_
  refine gl_op rfl rfl rfl (op_pure hT rfl) ?_
  refine gl_nil ?_
  refine hK8 _ _ ?_
  clear hK8; try clear K8
  refine gc_cond rfl rfl (fun c26 => ?_) (fun c26 => ?_)
  · try simp only [decide_eq_true_eq, decide_eq_false_iff_not, Bool.not_eq_true', Bool.not_eq_false', Int.not_lt, Int.not_le, Nat.not_lt, Nat.not_le, Bool.true_eq, Bool.false_eq, reduceCtorEq] at c26
    refine gc_skip ?_
    refine hK7 _ _ ?_
    clear hK7; try clear K7
    refine gc_seq fun K9 hK9 => ?_
    refine gc_block ?_
    refine gc_seq fun K10 hK10 => ?_
    refine gc_region ?_
    refine gl_op rfl rfl rfl (op_pure hT rfl) ?_
    refine gl_op rfl rfl rfl (op_pure hT rfl) ?_
    refine gl_ix (0 : Int) hT (h1.old hS) rfl rfl rfl rfl rfl el3.cellsOf.1 el3.cellsOf.2 rfl (by simp) rfl (by omega) (by first | omega | (simp; omega)) fun p31 hp31 => ?_
    have hil : i < ps.length := by omega
    have hst : (ps.getD ((i : Int)).toNat 0) = ps.getD i 0 := by simp
    rw [hst] at hp31
    have hft := forms_take ps i hil
    have hftl := congrArg List.length hft
    rw [List.length_append] at hftl
    have hct := count_take ps i hil
    have hp4 := pointB_le (ps.getD i 0)
    refine gl_op rfl rfl rfl (op_load hT rfl rfl rfl rfl hp31) ?_
    refine gl_callf rfl rfl rfl rfl Tryd.func24 rfl rfl rfl (Point_calls (ps.getD i 0) (hz i) _) ?_
    rintro _ w33 ⟨A33, c33, rfl, hr33, hb33⟩
    refine ⟨_, rfl, ?_⟩
    have hS := hS.addRow hb33 hr33
    refine gl_op rfl rfl rfl (op_pure hT rfl) ?_
    refine gl_nil ?_
    refine hK10 _ _ ?_
    clear hK10; try clear K10
    refine gc_seq fun K11 hK11 => ?_
    refine gc_seq fun K12 hK12 => ?_
    refine gc_region ?_
    refine gl_op rfl rfl rfl (op_pure hT rfl) ?_
    refine gl_op rfl rfl rfl (op_pure hT rfl) ?_
    refine gl_op rfl rfl rfl (op_pure hT rfl) ?_
    refine gl_nil ?_
    refine hK12 _ _ ?_
    clear hK12; try clear K12
    refine gc_cond rfl rfl (fun c36 => ?_) (fun c36 => ?_)
    · try simp only [decide_eq_true_eq, decide_eq_false_iff_not, Bool.not_eq_true', Bool.not_eq_false', Int.not_lt, Int.not_le, Nat.not_lt, Nat.not_le, Bool.true_eq, Bool.false_eq, reduceCtorEq] at c36
      refine gc_region ?_
      refine gl_op rfl rfl rfl (op_pure hT rfl) ?_
      first | refine gl_fit hT rfl rfl rfl rfl (by omega) ?_ | refine gl_op rfl rfl rfl (op_pure hT rfl) ?_
      refine gl_op rfl rfl rfl (op_pure hT rfl) ?_
      refine gl_nil ?_
      refine hK11 _ _ ?_
      clear hK11; try clear K11
      refine gc_region ?_
      refine gl_op rfl rfl rfl (op_pure hT rfl) ?_
      refine gl_op rfl rfl rfl (op_pure hT rfl) ?_
      refine gl_append 0 hT hS el5 (hS.rd (i := 1) rfl) (allOne_uB _) rfl rfl rfl rfl rfl rfl rfl rfl (by omega) (by omega) fun A41 c41 w41 hS => ?_
      have hS := hS.erase 1
      have hS : St w.heap.size w w41 [.row A41 c41 5 1 ((formsB (ps.take i)).length + (pointB (ps.getD i 0)).length) ((formsB (ps.take i)).map uB ++ (pointB (ps.getD i 0)).map uB)] := hS
      rw [← hftl, ← List.map_append, ← hft] at hS
      refine gl_spell 41 (v := .slice A41 (formsB (ps.take (i + 1))).length c41) rfl (by rw [hftl]) ?_
      refine gl_op rfl rfl rfl (op_pure hT rfl) ?_
      refine gl_nil ?_
      refine hK9 _ _ ?_
      clear hK9; try clear K9
      refine gc_region ?_
      refine gl_op rfl rfl rfl (op_pure hT rfl) ?_
      first | refine gl_fit hT rfl rfl rfl rfl (by omega) ?_ | refine gl_op rfl rfl rfl (op_pure hT rfl) ?_
      refine gl_op rfl rfl rfl (op_pure hT rfl) ?_
      refine gl_nil ?_
      intro a ha
      first
        | (rw [if_neg (by omega)] at hct
           exact ⟨i + 1, _, _, ha.sub ⟨rfl, rfl, rfl, rfl, rfl, by rw [hct]; rfl, rfl, trivial⟩, by omega, by omega, by omega, hS⟩)
        | (rw [if_pos (by omega)] at hct
           exact ⟨i + 1, _, _, ha.sub ⟨rfl, rfl, rfl, rfl, rfl, by rw [hct]; rfl, rfl, trivial⟩, by omega, by omega, by omega, hS⟩)
    · try simp only [decide_eq_true_eq, decide_eq_false_iff_not, Bool.not_eq_true', Bool.not_eq_false', Int.not_lt, Int.not_le, Nat.not_lt, Nat.not_le, Bool.true_eq, Bool.false_eq, reduceCtorEq] at c36
      refine gc_skip ?_
      refine hK11 _ _ ?_
      clear hK11; try clear K11
      refine gc_region ?_
      refine gl_op rfl rfl rfl (op_pure hT rfl) ?_
      refine gl_op rfl rfl rfl (op_pure hT rfl) ?_
      refine gl_append 0 hT hS el5 (hS.rd (i := 1) rfl) (allOne_uB _) rfl rfl rfl rfl rfl rfl rfl rfl (by omega) (by omega) fun A41 c41 w41 hS => ?_
      have hS := hS.erase 1
      have hS : St w.heap.size w w41 [.row A41 c41 5 1 ((formsB (ps.take i)).length + (pointB (ps.getD i 0)).length) ((formsB (ps.take i)).map uB ++ (pointB (ps.getD i 0)).map uB)] := hS
      rw [← hftl, ← List.map_append, ← hft] at hS
      refine gl_spell 41 (v := .slice A41 (formsB (ps.take (i + 1))).length c41) rfl (by rw [hftl]) ?_
      refine gl_op rfl rfl rfl (op_pure hT rfl) ?_
      refine gl_nil ?_
      refine hK9 _ _ ?_
      clear hK9; try clear K9
      refine gc_region ?_
      refine gl_op rfl rfl rfl (op_pure hT rfl) ?_
      first | refine gl_fit hT rfl rfl rfl rfl (by omega) ?_ | refine gl_op rfl rfl rfl (op_pure hT rfl) ?_
      refine gl_op rfl rfl rfl (op_pure hT rfl) ?_
      refine gl_nil ?_
      intro a ha
      first
        | (rw [if_neg (by omega)] at hct
           exact ⟨i + 1, _, _, ha.sub ⟨rfl, rfl, rfl, rfl, rfl, by rw [hct]; rfl, rfl, trivial⟩, by omega, by omega, by omega, hS⟩)
        | (rw [if_pos (by omega)] at hct
           exact ⟨i + 1, _, _, ha.sub ⟨rfl, rfl, rfl, rfl, rfl, by rw [hct]; rfl, rfl, trivial⟩, by omega, by omega, by omega, hS⟩)
  · try simp only [decide_eq_true_eq, decide_eq_false_iff_not, Bool.not_eq_true', Bool.not_eq_false', Int.not_lt, Int.not_le, Nat.not_lt, Nat.not_le, Bool.true_eq, Bool.false_eq, reduceCtorEq] at c26
    refine gc_exit ?_
    refine hK5 _ _ ?_
    clear hK5; try clear K5
    refine gc_seq fun K13 hK13 => ?_
    refine gc_region ?_
    refine gl_op rfl rfl rfl (op_pure hT rfl) ?_
    refine gl_op rfl rfl rfl (op_b2s hT (hS.rdE (i := 0) rfl) rfl rfl rfl rfl rfl (by first | rfl | omega | (simp; omega))) ?_
    have hie : i = ps.length := by omega
    have hall : ps.take i = ps := List.take_of_length_le (by omega)
    rw [hall] at hS hfl hcn
    rw [hall]
    refine gl_callf rfl rfl rfl rfl Tryd.func25 rfl rfl rfl (Runes_calls (strB (formsB ps)) (by rw [strB_size]; omega) _ (hU.old hS)) ?_
    rintro _ w45 ⟨rfl, hb45⟩
    refine ⟨_, rfl, ?_⟩
    have hS := hS.grown hb45
    rw [runesV_forms]
    refine gl_op rfl rfl rfl (op_pure hT rfl) ?_
    refine gl_op rfl rfl rfl (op_pure hT rfl) ?_
    refine gl_op rfl rfl rfl (op_pure hT rfl) ?_
    refine gl_op rfl rfl rfl (op_pure hT rfl) ?_
    refine gl_op rfl rfl rfl (op_pure hT rfl) ?_
    refine gl_nil ?_
    refine hK13 _ _ ?_
    clear hK13; try clear K13
    refine gc_seq fun K14 hK14 => ?_
    refine gc_seq fun K15 hK15 => ?_
    refine gc_region ?_
    refine gl_op rfl rfl rfl (op_pure hT rfl) ?_
    refine gl_op rfl rfl rfl (op_pure hT rfl) ?_
    refine gl_op rfl rfl rfl (op_pure hT rfl) ?_
    refine gl_un rfl rfl rfl rfl ?_
    refine gl_op rfl rfl rfl (op_pure hT rfl) ?_
    refine gl_un rfl rfl rfl rfl ?_
    refine gl_op rfl rfl rfl (op_pure hT rfl) ?_
    refine gl_un rfl rfl rfl rfl ?_
    refine gl_op rfl rfl rfl (op_pure hT rfl) ?_
    refine gl_spell 53 (v := .bool false) rfl (by simp) ?_
    refine gl_op rfl rfl rfl (op_pure hT rfl) ?_
    refine gl_op rfl rfl rfl (op_pure hT rfl) ?_
    refine gl_un rfl rfl rfl rfl ?_
    refine gl_callf rfl rfl rfl rfl Tryd.func15 rfl rfl rfl (told_calls _ (hU.old hS)) ?_
    rintro _ w56 ⟨rfl, hb56⟩
    refine ⟨_, rfl, ?_⟩
    have hS := hS.grown hb56
    refine gl_un rfl rfl rfl rfl ?_
    refine gl_op rfl rfl rfl (op_pure hT rfl) ?_
    refine gl_op rfl rfl rfl (op_pure hT rfl) ?_
    refine gl_nil ?_
    refine hK15 _ _ ?_
    clear hK15; try clear K15
    refine gc_cond_f rfl ?_
    refine gc_skip ?_
    refine hK14 _ _ ?_
    clear hK14; try clear K14
    refine gc_seq fun K16 hK16 => ?_
    refine gc_seq fun K17 hK17 => ?_
    refine gc_region ?_
    refine gl_op rfl rfl rfl (op_pure hT rfl) ?_
    refine gl_op rfl rfl rfl (op_pure hT rfl) ?_
    refine gl_op rfl rfl rfl (op_pure hT rfl) ?_
    refine gl_nil ?_
    refine hK17 _ _ ?_
    clear hK17; try clear K17
    refine gc_cond rfl rfl (fun c61 => ?_) (fun c61 => ?_)
    · try simp only [decide_eq_true_eq, decide_eq_false_iff_not, Bool.not_eq_true', Bool.not_eq_false', Int.not_lt, Int.not_le, Nat.not_lt, Nat.not_le, Bool.true_eq, Bool.false_eq, reduceCtorEq] at c61
      refine gc_seq fun K18 hK18 => ?_
      refine gc_region ?_
      refine gl_op rfl rfl rfl (op_pure hT rfl) ?_
      refine gl_nil ?_
      refine hK18 _ _ ?_
      clear hK18; try clear K18
      refine gc_ret ?_
      try simp only [x_then_ret, x_block_ret]
      refine gk_ret1 rfl rfl ?_
      exact ⟨rfl, hS.below⟩
    · try simp only [decide_eq_true_eq, decide_eq_false_iff_not, Bool.not_eq_true', Bool.not_eq_false', Int.not_lt, Int.not_le, Nat.not_lt, Nat.not_le, Bool.true_eq, Bool.false_eq, reduceCtorEq] at c61
      refine gc_skip ?_
      refine hK16 _ _ ?_
      clear hK16; try clear K16
      refine gc_seq fun K19 hK19 => ?_
      refine gc_region ?_
      refine gl_op rfl rfl rfl (op_pure hT rfl) ?_
      refine gl_op rfl rfl rfl (op_pure hT rfl) ?_
      refine gl_op rfl rfl rfl (op_pure hT rfl) ?_
      refine gl_callf rfl rfl rfl rfl Tryd.func26 rfl rfl rfl (Spot_calls at_ _ ha ⟨by omega, by omega⟩ _) ?_
      rintro _ w65 ⟨rfl, rfl⟩
      refine ⟨_, rfl, ?_⟩
      rw [if_neg c61]; have hr0 := Int.emod_nonneg at_ c61; have hr1 := Int.emod_lt_of_pos at_ (show (0 : Int) < ((formsB ps).length : Nat) by omega)
      refine gl_op rfl rfl rfl (op_pure hT rfl) ?_
      refine gl_nil ?_
      refine hK19 _ _ ?_
      clear hK19; try clear K19
      refine gc_seq fun K20 hK20 => ?_
      refine gc_region ?_
      refine gl_op rfl rfl rfl (op_pure hT rfl) ?_
      refine gl_nil ?_
      refine hK20 _ _ ?_
      clear hK20; try clear K20
      refine gc_seq fun K21 hK21 => ?_
      refine gc_region ?_
      refine gl_op rfl rfl rfl (op_pure hT rfl) ?_
      have hca := (hS.cap (i := 0) rfl).1
      refine gl_op rfl rfl rfl (op_pure hT rfl) ?_
      refine gl_op rfl rfl rfl (op_pure hT rfl) ?_
      refine gl_op rfl rfl rfl (op_slice_h hT el5 rfl rfl rfl rfl (by first | omega | (simp; omega)) (by first | omega | (simp; omega))) ?_
      refine gl_append0 hT hS el5 ((hS.rdE (i := 0) rfl).pre (k := (at_ % ((formsB ps).length : Nat)).toNat) (by omega)) (allOne_uB _) rfl rfl rfl rfl rfl rfl rfl (by first | omega | (simp; omega)) (by first | omega | (simp; omega)) fun A70 c70 w70 hS => ?_
      refine gl_op rfl rfl rfl (op_pure hT rfl) ?_
      refine gl_nil ?_
      refine hK21 _ _ ?_
      clear hK21; try clear K21
      refine gc_cut (fun a w' => ∃ (l : List UInt8) (A : Option Addr) (c : Nat), Fr 135 a [(15, .slice A l.length c)] ∧ l.length ≤ 2000 ∧ St w.heap.size w w' [.row A c 5 1 l.length (l.map uB)]) ?_ ?_
      · skip
        refine gc_seq fun K22 hK22 => ?_
        refine gc_region ?_
        refine gl_op rfl rfl rfl (op_pure hT rfl) ?_
        first | refine gl_op rfl rfl rfl (op_rem hT rfl (by omega)) ?_ | refine gl_op rfl rfl rfl (op_pure hT rfl) ?_
        refine gl_nil ?_
        refine hK22 _ _ ?_
        clear hK22; try clear K22
        refine gc_block ?_
        refine gc_seq fun K23 hK23 => ?_
        refine gc_region ?_
        refine gl_op rfl rfl rfl (op_pure hT rfl) ?_
        refine gl_op rfl rfl rfl (op_pure hT rfl) ?_
        refine gl_nil ?_
        refine hK23 _ _ ?_
        clear hK23; try clear K23
        refine gc_cond rfl rfl (fun c83 => ?_) (fun c83 => ?_)
        · try simp only [decide_eq_true_eq, decide_eq_false_iff_not, Bool.not_eq_true', Bool.not_eq_false', Int.not_lt, Int.not_le, Nat.not_lt, Nat.not_le, Bool.true_eq, Bool.false_eq, reduceCtorEq] at c83
          refine gc_seq fun K24 hK24 => ?_
          refine gc_region ?_
          refine gl_op rfl rfl rfl (op_pure hT rfl) ?_
          refine gl_op rfl rfl rfl (op_pure hT rfl) ?_
          refine gl_op rfl rfl rfl (op_pure hT rfl) ?_
          refine gl_lit hT hS el5 rfl rfl rfl rfl rfl rfl rfl rfl rfl fun g88 w88 hS => ?_
          refine gl_append 1 hT hS el5 (hS.rd (i := 2) rfl) (rfl) rfl rfl rfl rfl rfl rfl rfl rfl (by first | omega | (simp; omega)) (by first | omega | (simp; omega)) fun A89 c89 w89 hS => ?_
          have hS := hS.erase 2
          refine gl_op rfl rfl rfl (op_pure hT rfl) ?_
          refine gl_nil ?_
          refine hK24 _ _ ?_
          clear hK24; try clear K24
          refine gc_region ?_
          refine gl_op rfl rfl rfl (op_pure hT rfl) ?_
          refine gl_op rfl rfl rfl (op_pure hT rfl) ?_
          refine gl_op rfl rfl rfl (op_pure hT rfl) ?_
          first | refine gl_fit hT rfl rfl rfl rfl (by omega) ?_ | refine gl_op rfl rfl rfl (op_pure hT rfl) ?_
          refine gl_op rfl rfl rfl (op_slice_l hT el5 rfl rfl rfl rfl (by first | omega | (simp; omega)) (by first | omega | (simp; omega))) ?_
          refine gl_append 1 hT hS el5 ((hS.rdE (i := 0) rfl).suf (k := (at_ % ((formsB ps).length : Nat) + 1).toNat) (cap := c9) (by omega) (by omega)) (allOne_uB _) rfl rfl rfl rfl rfl rfl rfl rfl (by first | omega | (simp; omega)) (by first | omega | (simp; omega)) fun A95 c95 w95 hS => ?_
          refine gl_op rfl rfl rfl (op_pure hT rfl) ?_
          refine gl_nil ?_
          intro a ha
          have hS := hS.erase 0
          try simp only [u8_mod] at hS
          first
            | refine ⟨(formsB ps).take (at_ % ((formsB ps).length : Nat)).toNat ++ [UInt8.ofNat (by_ % 256).toNat] ++ (formsB ps).drop (at_ % ((formsB ps).length : Nat) + 1).toNat, A95, c95, ha.sub ⟨?_, trivial⟩, ?_, ?_⟩
            | refine ⟨(formsB ps).take (at_ % ((formsB ps).length : Nat)).toNat ++ (formsB ps).drop (at_ % ((formsB ps).length : Nat) + 1).toNat, A103, c103, ha.sub ⟨?_, trivial⟩, ?_, ?_⟩
            | refine ⟨(formsB ps).take (at_ % ((formsB ps).length : Nat)).toNat ++ [UInt8.ofNat (by_ % 256).toNat] ++ (formsB ps).drop (at_ % ((formsB ps).length : Nat)).toNat, A82, c82, ha.sub ⟨?_, trivial⟩, ?_, ?_⟩
          · refine congrArg some (?_ : Value.slice _ _ _ = Value.slice _ _ _)
            congr 1
            simp
            try omega
          · simp
            omega
          · have hS := hS
            simp only [List.eraseIdx, List.nil_append, List.cons_append, List.set, List.append_nil, List.eraseIdx_cons_zero] at hS
            simp only [List.map_append, List.length_append, List.length_take, List.length_drop, List.map_cons, List.map_nil, List.length_cons, List.length_nil]
            rw [Nat.min_eq_left (by omega)]
            exact hS
        · try simp only [decide_eq_true_eq, decide_eq_false_iff_not, Bool.not_eq_true', Bool.not_eq_false', Int.not_lt, Int.not_le, Nat.not_lt, Nat.not_le, Bool.true_eq, Bool.false_eq, reduceCtorEq] at c83
          refine gc_seq fun K25 hK25 => ?_
          refine gc_region ?_
          refine gl_op rfl rfl rfl (op_pure hT rfl) ?_
          refine gl_op rfl rfl rfl (op_pure hT rfl) ?_
          refine gl_nil ?_
          refine hK25 _ _ ?_
          clear hK25; try clear K25
          refine gc_cond rfl rfl (fun c96 => ?_) (fun c96 => ?_)
          · try simp only [decide_eq_true_eq, decide_eq_false_iff_not, Bool.not_eq_true', Bool.not_eq_false', Int.not_lt, Int.not_le, Nat.not_lt, Nat.not_le, Bool.true_eq, Bool.false_eq, reduceCtorEq] at c96
            refine gc_region ?_
            refine gl_op rfl rfl rfl (op_pure hT rfl) ?_
            refine gl_op rfl rfl rfl (op_pure hT rfl) ?_
            refine gl_op rfl rfl rfl (op_pure hT rfl) ?_
            first | refine gl_fit hT rfl rfl rfl rfl (by omega) ?_ | refine gl_op rfl rfl rfl (op_pure hT rfl) ?_
            refine gl_op rfl rfl rfl (op_slice_l hT el5 rfl rfl rfl rfl (by first | omega | (simp; omega)) (by first | omega | (simp; omega))) ?_
            refine gl_append 1 hT hS el5 ((hS.rdE (i := 0) rfl).suf (k := (at_ % ((formsB ps).length : Nat) + 1).toNat) (cap := c9) (by omega) (by omega)) (allOne_uB _) rfl rfl rfl rfl rfl rfl rfl rfl (by first | omega | (simp; omega)) (by first | omega | (simp; omega)) fun A103 c103 w103 hS => ?_
            refine gl_op rfl rfl rfl (op_pure hT rfl) ?_
            refine gl_nil ?_
            intro a ha
            have hS := hS.erase 0
            try simp only [u8_mod] at hS
            first
              | refine ⟨(formsB ps).take (at_ % ((formsB ps).length : Nat)).toNat ++ [UInt8.ofNat (by_ % 256).toNat] ++ (formsB ps).drop (at_ % ((formsB ps).length : Nat) + 1).toNat, A95, c95, ha.sub ⟨?_, trivial⟩, ?_, ?_⟩
              | refine ⟨(formsB ps).take (at_ % ((formsB ps).length : Nat)).toNat ++ (formsB ps).drop (at_ % ((formsB ps).length : Nat) + 1).toNat, A103, c103, ha.sub ⟨?_, trivial⟩, ?_, ?_⟩
              | refine ⟨(formsB ps).take (at_ % ((formsB ps).length : Nat)).toNat ++ [UInt8.ofNat (by_ % 256).toNat] ++ (formsB ps).drop (at_ % ((formsB ps).length : Nat)).toNat, A82, c82, ha.sub ⟨?_, trivial⟩, ?_, ?_⟩
            · refine congrArg some (?_ : Value.slice _ _ _ = Value.slice _ _ _)
              congr 1
              simp
              try omega
            · simp
              omega
            · have hS := hS
              simp only [List.eraseIdx, List.nil_append, List.cons_append, List.set, List.append_nil, List.eraseIdx_cons_zero] at hS
              simp only [List.map_append, List.length_append, List.length_take, List.length_drop, List.map_cons, List.map_nil, List.length_cons, List.length_nil]
              rw [Nat.min_eq_left (by omega)]
              exact hS
          · try simp only [decide_eq_true_eq, decide_eq_false_iff_not, Bool.not_eq_true', Bool.not_eq_false', Int.not_lt, Int.not_le, Nat.not_lt, Nat.not_le, Bool.true_eq, Bool.false_eq, reduceCtorEq] at c96
            refine gc_seq fun K26 hK26 => ?_
            refine gc_region ?_
            refine gl_op rfl rfl rfl (op_pure hT rfl) ?_
            refine gl_op rfl rfl rfl (op_pure hT rfl) ?_
            refine gl_op rfl rfl rfl (op_pure hT rfl) ?_
            refine gl_lit hT hS el5 rfl rfl rfl rfl rfl rfl rfl rfl rfl fun g76 w76 hS => ?_
            refine gl_append 1 hT hS el5 (hS.rd (i := 2) rfl) (rfl) rfl rfl rfl rfl rfl rfl rfl rfl (by first | omega | (simp; omega)) (by first | omega | (simp; omega)) fun A77 c77 w77 hS => ?_
            have hS := hS.erase 2
            refine gl_op rfl rfl rfl (op_pure hT rfl) ?_
            refine gl_nil ?_
            refine hK26 _ _ ?_
            clear hK26; try clear K26
            refine gc_region ?_
            refine gl_op rfl rfl rfl (op_pure hT rfl) ?_
            refine gl_op rfl rfl rfl (op_pure hT rfl) ?_
            refine gl_op rfl rfl rfl (op_pure hT rfl) ?_
            refine gl_op rfl rfl rfl (op_slice_l hT el5 rfl rfl rfl rfl (by first | omega | (simp; omega)) (by first | omega | (simp; omega))) ?_
            refine gl_append 1 hT hS el5 ((hS.rdE (i := 0) rfl).suf (k := (at_ % ((formsB ps).length : Nat)).toNat) (cap := c9) (by omega) (by omega)) (allOne_uB _) rfl rfl rfl rfl rfl rfl rfl rfl (by first | omega | (simp; omega)) (by first | omega | (simp; omega)) fun A82 c82 w82 hS => ?_
            refine gl_op rfl rfl rfl (op_pure hT rfl) ?_
            refine gl_nil ?_
            intro a ha
            have hS := hS.erase 0
            try simp only [u8_mod] at hS
            first
              | refine ⟨(formsB ps).take (at_ % ((formsB ps).length : Nat)).toNat ++ [UInt8.ofNat (by_ % 256).toNat] ++ (formsB ps).drop (at_ % ((formsB ps).length : Nat) + 1).toNat, A95, c95, ha.sub ⟨?_, trivial⟩, ?_, ?_⟩
              | refine ⟨(formsB ps).take (at_ % ((formsB ps).length : Nat)).toNat ++ (formsB ps).drop (at_ % ((formsB ps).length : Nat) + 1).toNat, A103, c103, ha.sub ⟨?_, trivial⟩, ?_, ?_⟩
              | refine ⟨(formsB ps).take (at_ % ((formsB ps).length : Nat)).toNat ++ [UInt8.ofNat (by_ % 256).toNat] ++ (formsB ps).drop (at_ % ((formsB ps).length : Nat)).toNat, A82, c82, ha.sub ⟨?_, trivial⟩, ?_, ?_⟩
            · refine congrArg some (?_ : Value.slice _ _ _ = Value.slice _ _ _)
              congr 1
              simp
              try omega
            · simp
              omega
            · have hS := hS
              simp only [List.eraseIdx, List.nil_append, List.cons_append, List.set, List.append_nil, List.eraseIdx_cons_zero] at hS
              simp only [List.map_append, List.length_append, List.length_take, List.length_drop, List.map_cons, List.map_nil, List.length_cons, List.length_nil]
              rw [Nat.min_eq_left (by omega)]
              exact hS
      rintro a w1 ⟨l, A15, c15, hF, hl, hS⟩
      refine gc_of hF ?_
      refine gc_seq fun K27 hK27 => ?_
      refine gc_region ?_
      refine gl_op rfl rfl rfl (op_pure hT rfl) ?_
      refine gl_op rfl rfl rfl (op_b2s hT (hS.rdE (i := 0) rfl) rfl rfl rfl rfl rfl (by first | rfl | omega | (simp; omega))) ?_
      refine gl_callf rfl rfl rfl rfl Tryd.func27 rfl rfl rfl (row_calls (strB l) (by rw [strB_size]; omega) _) ?_
      rintro _ w107 ⟨rfl, hb107⟩
      refine ⟨_, rfl, ?_⟩
      have hS := hS.grown hb107
      refine gl_op rfl rfl rfl (op_pure hT rfl) ?_
      refine gl_op rfl rfl rfl (op_pure hT rfl) ?_
      refine gl_op rfl rfl rfl (op_pure hT rfl) ?_
      refine gl_op rfl rfl rfl (op_pure hT rfl) ?_
      refine gl_op rfl rfl rfl (op_pure hT rfl) ?_
      refine gl_nil ?_
      refine hK27 _ _ ?_
      clear hK27; try clear K27
      refine gc_seq fun K28 hK28 => ?_
      refine gc_region ?_
      refine gl_op rfl rfl rfl (op_pure hT rfl) ?_
      refine gl_op rfl rfl rfl (op_b2s hT (hS.rdE (i := 0) rfl) rfl rfl rfl rfl rfl (by first | rfl | omega | (simp; omega))) ?_
      refine gl_callf rfl rfl rfl rfl Tryd.func25 rfl rfl rfl (Runes_calls (strB l) (by rw [strB_size]; omega) _ (hU.old hS)) ?_
      rintro _ w113 ⟨rfl, hb113⟩
      refine ⟨_, rfl, ?_⟩
      have hS := hS.grown hb113
      refine gl_op rfl rfl rfl (op_pure hT rfl) ?_
      refine gl_op rfl rfl rfl (op_pure hT rfl) ?_
      refine gl_op rfl rfl rfl (op_pure hT rfl) ?_
      refine gl_op rfl rfl rfl (op_pure hT rfl) ?_
      refine gl_op rfl rfl rfl (op_pure hT rfl) ?_
      refine gl_nil ?_
      refine hK28 _ _ ?_
      clear hK28; try clear K28
      refine gc_seq fun K29 hK29 => ?_
      refine gc_region ?_
      refine gl_op rfl rfl rfl (op_pure hT rfl) ?_
      refine gl_op rfl rfl rfl (op_pure hT rfl) ?_
      refine gl_op rfl rfl rfl (op_pure hT rfl) ?_
      refine gl_spell 118 (v := .bool true) rfl (by simp) ?_
      refine gl_op rfl rfl rfl (op_pure hT rfl) ?_
      refine gl_un rfl rfl rfl rfl ?_
      refine gl_op rfl rfl rfl (op_pure hT rfl) ?_
      refine gl_un rfl rfl rfl rfl ?_
      refine gl_op rfl rfl rfl (op_pure hT rfl) ?_
      refine gl_un rfl rfl rfl rfl ?_
      refine gl_op rfl rfl rfl (op_pure hT rfl) ?_
      refine gl_split (t := 122) rfl (fun c122 => ?_) (fun c122 => ?_)
      · try simp only [decide_eq_true_eq, decide_eq_false_iff_not, Bool.not_eq_true', Bool.not_eq_false', Int.not_lt, Int.not_le, Nat.not_lt, Nat.not_le, Bool.true_eq, Bool.false_eq, reduceCtorEq] at c122
        refine gl_un rfl rfl rfl rfl ?_
        refine gl_op rfl rfl rfl (op_pure hT rfl) ?_
        refine gl_un rfl rfl rfl rfl ?_
        refine gl_op rfl rfl rfl (op_pure hT rfl) ?_
        refine gl_un rfl rfl rfl rfl ?_
        refine gl_op rfl rfl rfl (op_pure hT rfl) ?_
        refine gl_un rfl rfl rfl rfl ?_
        refine gl_op rfl rfl rfl (op_pure hT rfl) ?_
        refine gl_split (t := 126) rfl (fun c126 => ?_) (fun c126 => ?_)
        · try simp only [decide_eq_true_eq, decide_eq_false_iff_not, Bool.not_eq_true', Bool.not_eq_false', Int.not_lt, Int.not_le, Nat.not_lt, Nat.not_le, Bool.true_eq, Bool.false_eq, reduceCtorEq] at c126
          refine gl_pass rfl rfl rfl rfl rfl rfl ?_
          refine gl_pass rfl rfl rfl rfl rfl rfl ?_
          refine gl_none rfl rfl rfl rfl rfl ?_
          refine gl_none rfl rfl rfl rfl rfl ?_
          refine gl_none rfl rfl rfl rfl rfl ?_
          refine gl_pass rfl rfl rfl rfl rfl rfl ?_
          refine gl_un rfl rfl rfl rfl ?_
          refine gl_op rfl rfl rfl (op_pure hT rfl) ?_
          refine gl_op rfl rfl rfl (op_pure hT rfl) ?_
          refine gl_op rfl rfl rfl (op_pure hT rfl) ?_
          refine gl_nil ?_
          refine hK29 _ _ ?_
          clear hK29; try clear K29
          refine gc_ret ?_
          try simp only [x_then_ret, x_block_ret]
          refine gk_ret1 rfl rfl ?_
          first
            | exact ⟨rfl, hS.below⟩
            | (have hf := runesV_false (strB l)
               refine ⟨?_, hS.below⟩
               simp_all)
        · try simp only [decide_eq_true_eq, decide_eq_false_iff_not, Bool.not_eq_true', Bool.not_eq_false', Int.not_lt, Int.not_le, Nat.not_lt, Nat.not_le, Bool.true_eq, Bool.false_eq, reduceCtorEq] at c126
          refine gl_un rfl rfl rfl rfl ?_
          refine gl_op rfl rfl rfl (op_pure hT rfl) ?_
          refine gl_un rfl rfl rfl rfl ?_
          refine gl_op rfl rfl rfl (op_pure hT rfl) ?_
          refine gl_split (t := 128) rfl (fun c128 => ?_) (fun c128 => ?_)
          · try simp only [decide_eq_true_eq, decide_eq_false_iff_not, Bool.not_eq_true', Bool.not_eq_false', Int.not_lt, Int.not_le, Nat.not_lt, Nat.not_le, Bool.true_eq, Bool.false_eq, reduceCtorEq] at c128
            refine gl_un rfl rfl rfl rfl ?_
            refine gl_op rfl rfl rfl (op_pure hT rfl) ?_
            refine gl_un rfl rfl rfl rfl ?_
            refine gl_op rfl rfl rfl (op_pure hT rfl) ?_
            refine gl_un rfl rfl rfl rfl ?_
            refine gl_op rfl rfl rfl (op_pure hT rfl) ?_
            refine gl_un rfl rfl rfl rfl ?_
            refine gl_op rfl rfl rfl (op_pure hT rfl) ?_
            refine gl_un rfl rfl rfl rfl ?_
            refine gl_op rfl rfl rfl (op_pure hT rfl) ?_
            refine gl_op rfl rfl rfl (op_pure hT rfl) ?_
            refine gl_op rfl rfl rfl (op_pure hT rfl) ?_
            refine gl_nil ?_
            refine hK29 _ _ ?_
            clear hK29; try clear K29
            refine gc_ret ?_
            try simp only [x_then_ret, x_block_ret]
            refine gk_ret1 rfl rfl ?_
            first
              | exact ⟨rfl, hS.below⟩
              | (have hf := runesV_false (strB l)
                 refine ⟨?_, hS.below⟩
                 simp_all)
          · try simp only [decide_eq_true_eq, decide_eq_false_iff_not, Bool.not_eq_true', Bool.not_eq_false', Int.not_lt, Int.not_le, Nat.not_lt, Nat.not_le, Bool.true_eq, Bool.false_eq, reduceCtorEq] at c128
            refine gl_pass rfl rfl rfl rfl rfl rfl ?_
            refine gl_pass rfl rfl rfl rfl rfl rfl ?_
            refine gl_pass rfl rfl rfl rfl rfl rfl ?_
            refine gl_un rfl rfl rfl rfl ?_
            refine gl_op rfl rfl rfl (op_pure hT rfl) ?_
            refine gl_un rfl rfl rfl rfl ?_
            refine gl_op rfl rfl rfl (op_pure hT rfl) ?_
            refine gl_op rfl rfl rfl (op_pure hT rfl) ?_
            refine gl_op rfl rfl rfl (op_pure hT rfl) ?_
            refine gl_nil ?_
            refine hK29 _ _ ?_
            clear hK29; try clear K29
            refine gc_ret ?_
            try simp only [x_then_ret, x_block_ret]
            refine gk_ret1 rfl rfl ?_
            first
              | exact ⟨rfl, hS.below⟩
              | (have hf := runesV_false (strB l)
                 refine ⟨?_, hS.below⟩
                 simp_all)
      · try simp only [decide_eq_true_eq, decide_eq_false_iff_not, Bool.not_eq_true', Bool.not_eq_false', Int.not_lt, Int.not_le, Nat.not_lt, Nat.not_le, Bool.true_eq, Bool.false_eq, reduceCtorEq] at c122
        refine gl_pass rfl rfl rfl rfl rfl rfl ?_
        refine gl_pass rfl rfl rfl rfl rfl rfl ?_
        refine gl_un rfl rfl rfl rfl ?_
        refine gl_op rfl rfl rfl (op_pure hT rfl) ?_
        refine gl_un rfl rfl rfl rfl ?_
        refine gl_op rfl rfl rfl (op_pure hT rfl) ?_
        refine gl_un rfl rfl rfl rfl ?_
        refine gl_op rfl rfl rfl (op_pure hT rfl) ?_
        refine gl_un rfl rfl rfl rfl ?_
        refine gl_op rfl rfl rfl (op_pure hT rfl) ?_
        refine gl_split (t := 128) rfl (fun c128 => ?_) (fun c128 => ?_)
        · try simp only [decide_eq_true_eq, decide_eq_false_iff_not, Bool.not_eq_true', Bool.not_eq_false', Int.not_lt, Int.not_le, Nat.not_lt, Nat.not_le, Bool.true_eq, Bool.false_eq, reduceCtorEq] at c128
          refine gl_un rfl rfl rfl rfl ?_
          refine gl_op rfl rfl rfl (op_pure hT rfl) ?_
          refine gl_un rfl rfl rfl rfl ?_
          refine gl_op rfl rfl rfl (op_pure hT rfl) ?_
          refine gl_un rfl rfl rfl rfl ?_
          refine gl_op rfl rfl rfl (op_pure hT rfl) ?_
          refine gl_un rfl rfl rfl rfl ?_
          refine gl_op rfl rfl rfl (op_pure hT rfl) ?_
          refine gl_un rfl rfl rfl rfl ?_
          refine gl_op rfl rfl rfl (op_pure hT rfl) ?_
          refine gl_op rfl rfl rfl (op_pure hT rfl) ?_
          refine gl_op rfl rfl rfl (op_pure hT rfl) ?_
          refine gl_nil ?_
          refine hK29 _ _ ?_
          clear hK29; try clear K29
          refine gc_ret ?_
          try simp only [x_then_ret, x_block_ret]
          refine gk_ret1 rfl rfl ?_
          first
            | exact ⟨rfl, hS.below⟩
            | (have hf := runesV_false (strB l)
               refine ⟨?_, hS.below⟩
               simp_all)
        · try simp only [decide_eq_true_eq, decide_eq_false_iff_not, Bool.not_eq_true', Bool.not_eq_false', Int.not_lt, Int.not_le, Nat.not_lt, Nat.not_le, Bool.true_eq, Bool.false_eq, reduceCtorEq] at c128
          refine gl_pass rfl rfl rfl rfl rfl rfl ?_
          refine gl_pass rfl rfl rfl rfl rfl rfl ?_
          refine gl_pass rfl rfl rfl rfl rfl rfl ?_
          refine gl_un rfl rfl rfl rfl ?_
          refine gl_op rfl rfl rfl (op_pure hT rfl) ?_
          refine gl_un rfl rfl rfl rfl ?_
          refine gl_op rfl rfl rfl (op_pure hT rfl) ?_
          refine gl_op rfl rfl rfl (op_pure hT rfl) ?_
          refine gl_op rfl rfl rfl (op_pure hT rfl) ?_
          refine gl_nil ?_
          refine hK29 _ _ ?_
          clear hK29; try clear K29
          refine gc_ret ?_
          try simp only [x_then_ret, x_block_ret]
          refine gk_ret1 rfl rfl ?_
          first
            | exact ⟨rfl, hS.below⟩
            | (have hf := runesV_false (strB l)
               refine ⟨?_, hS.below⟩
               simp_all)
end Go.Proofs.YtpeomdobcobdiaaDoor
