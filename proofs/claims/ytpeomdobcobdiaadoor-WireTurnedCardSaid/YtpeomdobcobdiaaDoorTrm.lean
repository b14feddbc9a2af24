/- Plain words for WireTurned: a frame with bits turned over. No program in sight; no condition. -/
import Derived.Test.YtpeomdobcobdiaaDoorTrn
namespace Go.Proofs.YtpeomdobcobdiaaDoor
set_option linter.unusedVariables false
set_option linter.unusedSimpArgs false
/-- One bit turned over. -/
def flp (y : List UInt8) (k : Nat) : List UInt8 := y.set (k / 8) (y.getD (k / 8) 0 ^^^ UInt8.ofNat (2 ^ (k % 8)))
def fl (y : List UInt8) (ks : List Nat) : List UInt8 := ks.foldl flp y
/-- What turned bits add to the register. -/
def syn (N : Nat) : List Nat → Nat
  | [] => 0
  | k :: ks => stps (N - k) 1 ^^^ syn N ks
theorem flp_len (y : List UInt8) (k : Nat) : (flp y k).length = y.length := by simp [flp]
theorem fl_len (ks : List Nat) : ∀ y : List UInt8, (fl y ks).length = y.length := by
  induction ks with
  | nil => intro y; rfl
  | cons k ks ih => intro y; rw [show fl y (k :: ks) = fl (flp y k) ks from rfl, ih, flp_len]
theorem fl_snoc (y : List UInt8) (ks : List Nat) (k : Nat) : fl y (ks ++ [k]) = flp (fl y ks) k := by simp [fl]
theorem stps_pow (i : Nat) : stps i (2 ^ i) = 1 := by
  induction i with
  | zero => rfl
  | succ i ih => rw [show stps (i + 1) (2 ^ (i + 1)) = stps i (stp (2 ^ (i + 1))) from rfl, show 2 ^ (i + 1) = 2 * 2 ^ i by omega, stp_even, ih]
theorem xor_zero_r (a : Nat) : a ^^^ 0 = a := Nat.xor_zero a
theorem crcGo_xor (l : List UInt8) : ∀ r d : Nat, crcGo (r ^^^ d) l = crcGo r l ^^^ stps (8 * l.length) d := by
  induction l with
  | nil => intro r d; rfl
  | cons x l ih =>
    intro r d
    have h : byt (r ^^^ d) x = byt r x ^^^ stps 8 d := by unfold byt; rw [xor_swap, stps_xor]
    rw [crcGo_cons, crcGo_cons, h, ih, ← stps_add, List.length_cons, Nat.mul_succ, Nat.add_comm 8]
theorem crcGo_flp (l : List UInt8) : ∀ (r k : Nat), k < 8 * l.length → crcGo r (flp l k) = crcGo r l ^^^ stps (8 * l.length - k) 1 := by
  induction l with
  | nil => intro r k h; simp at h
  | cons x l ih =>
    intro r k hk
    rcases Nat.lt_or_ge k 8 with h | h
    · have e : flp (x :: l) k = (x ^^^ UInt8.ofNat (2 ^ k)) :: l := by
        unfold flp; rw [show k / 8 = 0 by omega, show k % 8 = k by omega]; rfl
      have hp : 2 ^ k < 256 := Nat.lt_of_le_of_lt (Nat.pow_le_pow_right (by decide) (show k ≤ 7 by omega)) (by decide)
      have hb : byt r (x ^^^ UInt8.ofNat (2 ^ k)) = byt r x ^^^ stps (8 - k) 1 := by
        unfold byt
        rw [UInt8.toNat_xor, UInt8.toNat_ofNat', Nat.mod_eq_of_lt hp, ← Nat.xor_assoc, stps_xor]
        congr 1
        have := stps_add k (8 - k) (2 ^ k)
        rw [stps_pow, show k + (8 - k) = 8 by omega] at this
        exact this
      rw [e, crcGo_cons, crcGo_cons, hb, crcGo_xor, ← stps_add, List.length_cons]
      congr 2
      omega
    · have e : flp (x :: l) k = x :: flp l (k - 8) := by
        unfold flp; rw [show k / 8 = (k - 8) / 8 + 1 by omega, show k % 8 = (k - 8) % 8 by omega]; rfl
      rw [e, crcGo_cons, crcGo_cons, ih _ _ (by simp at hk; omega), List.length_cons]
      congr 2
      omega
theorem crcGo_fl (ks : List Nat) : ∀ (l : List UInt8) (r : Nat), (∀ k ∈ ks, k < 8 * l.length) → crcGo r (fl l ks) = crcGo r l ^^^ syn (8 * l.length) ks := by
  induction ks with
  | nil => intro l r _; exact (xor_zero_r _).symm
  | cons k ks ih =>
    intro l r h
    rw [show fl l (k :: ks) = fl (flp l k) ks from rfl, ih _ _ (by intro x hx; rw [flp_len]; exact h x (List.mem_cons_of_mem _ hx)), crcGo_flp l r k (h k List.mem_cons_self), flp_len, Nat.xor_assoc]
    rfl
theorem flp_take (y : List UInt8) (k n : Nat) : (flp y k).take n = if k < 8 * n then flp (y.take n) k else y.take n := by
  unfold flp
  rw [List.take_set]
  split
  · have : (y.take n).getD (k / 8) 0 = y.getD (k / 8) 0 := by
      simp only [List.getD_eq_getElem?_getD, List.getElem?_take_of_lt (show k / 8 < n by omega)]
    rw [this]
  · rw [List.set_eq_of_length_le (by simp; omega)]
theorem flp_drop (y : List UInt8) (k n : Nat) : (flp y k).drop n = if k < 8 * n then y.drop n else flp (y.drop n) (k - 8 * n) := by
  unfold flp
  rw [List.drop_set]
  split
  · rw [if_pos (by omega)]
  · rw [if_neg (by omega)]
    have e1 : (k - 8 * n) / 8 = k / 8 - n := by omega
    have e2 : (k - 8 * n) % 8 = k % 8 := by omega
    have e3 : (y.drop n).getD (k / 8 - n) 0 = y.getD (k / 8) 0 := by
      simp only [List.getD_eq_getElem?_getD, List.getElem?_drop]
      rw [show n + (k / 8 - n) = k / 8 by omega]
    rw [e1, e2, e3]
theorem fl_take (n : Nat) (ks : List Nat) : ∀ y : List UInt8, (fl y ks).take n = fl (y.take n) (ks.filter (· < 8 * n)) := by
  induction ks with
  | nil => intro y; rfl
  | cons k ks ih =>
    intro y
    rw [show fl y (k :: ks) = fl (flp y k) ks from rfl, ih, flp_take]
    by_cases h : k < 8 * n
    · rw [if_pos h, List.filter_cons_of_pos (by simpa using h)]; rfl
    · rw [if_neg h, List.filter_cons_of_neg (by simpa using h)]
theorem fl_drop (n : Nat) (ks : List Nat) : ∀ y : List UInt8, (∀ k ∈ ks, 8 * n ≤ k) → (fl y ks).drop n = fl (y.drop n) (ks.map (· - 8 * n)) := by
  induction ks with
  | nil => intro y _; rfl
  | cons k ks ih =>
    intro y h
    have hk := h k List.mem_cons_self
    rw [show fl y (k :: ks) = fl (flp y k) ks from rfl, ih _ fun x hx => h x (List.mem_cons_of_mem _ hx), flp_drop, if_neg (by omega)]
    rfl
theorem syn_map (N n : Nat) (ks : List Nat) (h : ∀ k ∈ ks, n ≤ k) : syn N (ks.map (· - n)) = syn (N + n) ks := by
  induction ks with
  | nil => rfl
  | cons k ks ih =>
    have hk := h k List.mem_cons_self
    rw [List.map_cons, syn, syn, ih fun x hx => h x (List.mem_cons_of_mem _ hx)]
    congr 2
    omega
theorem syn_append (N : Nat) (a b : List Nat) : syn N (a ++ b) = syn N a ^^^ syn N b := by
  induction a with
  | nil => exact (Nat.zero_xor _).symm
  | cons k a ih => rw [List.cons_append, syn, syn, ih, Nat.xor_assoc]
theorem stps8_shift (q : Nat) : stps 8 (256 * q) = q := by
  rw [show (8 : Nat) = 4 + 4 from rfl, stps_add, show 256 * q = 16 * (16 * q) by omega, stps4_shift, stps4_shift]
theorem xor_parts (w : Nat) : w = w % 256 ^^^ 256 * (w / 256) := by
  have h1 : 256 * (w / 256) ||| w % 256 = 256 * (w / 256) + w % 256 := (Nat.two_pow_add_eq_or_of_lt (i := 8) (b := w % 256) (by omega) (w / 256)).symm
  apply Nat.eq_of_testBit_eq
  intro i
  have h3 := congrArg (fun n => n.testBit i) h1
  simp only [Nat.testBit_or] at h3
  rw [show 256 * (w / 256) + w % 256 = w by omega] at h3
  rw [Nat.testBit_xor, ← h3]
  have h4 : (256 * (w / 256)).testBit i = false ∨ (w % 256).testBit i = false := by
    rcases Nat.lt_or_ge i 8 with hi | hi
    · left
      rw [show 256 * (w / 256) = 2 ^ 8 * (w / 256) by omega, Nat.testBit_two_pow_mul]
      simp; omega
    · right
      exact Nat.testBit_lt_two_pow (Nat.lt_of_lt_of_le (by omega : w % 256 < 2 ^ 8) (Nat.pow_le_pow_right (by decide) hi))
  rcases h4 with h4 | h4 <;> rw [h4] <;> cases (256 * (w / 256)).testBit i <;> cases (w % 256).testBit i <;> first | rfl | simp_all
theorem crcGo_byte (r w : Nat) : byt r (UInt8.ofNat w) ^^^ w / 256 = stps 8 (r ^^^ w) := by
  unfold byt
  rw [UInt8.toNat_ofNat']
  conv => rhs; rw [xor_parts w, ← Nat.xor_assoc, stps_xor, stps8_shift]
theorem crcGo_le4 (r v : Nat) (h : v < 4294967296) : crcGo r (le4 v) = stps 32 (r ^^^ v) := by
  have e1 := crcGo_byte r v
  have e2 := crcGo_byte (byt r (UInt8.ofNat v)) (v / 256)
  have e3 := crcGo_byte (byt (byt r (UInt8.ofNat v)) (UInt8.ofNat (v / 256))) (v / 65536)
  have e4 := crcGo_byte (byt (byt (byt r (UInt8.ofNat v)) (UInt8.ofNat (v / 256))) (UInt8.ofNat (v / 65536))) (v / 16777216)
  rw [Nat.div_div_eq_div_mul] at e2 e3 e4
  rw [e1] at e2
  rw [show 256 * 256 = 65536 from rfl] at e2
  rw [e2, ← stps_add, show 65536 * 256 = 16777216 from rfl] at e3
  rw [e3, ← stps_add, show v / (16777216 * 256) = 0 by omega, xor_zero_r, ← stps_add] at e4
  exact e4
/-- A sum fits just where the register has its end. -/
theorem sum_fits (l : List UInt8) (m : Nat) (h : l.length = m + 4) : wordV ((l.drop m).take 4) = crcV (l.take m) ↔ crcGo 4294967295 l = stps 32 4294967295 := by
  have hd : (l.drop m).length = 4 := by simp; omega
  have ht : (l.drop m).take 4 = l.drop m := List.take_of_length_le (by omega)
  have hl : l = l.take m ++ le4 (wordV (l.drop m)) := by rw [le4_wordV _ hd, List.take_append_drop]
  have hw := wordV_lt (l.drop m)
  have hR := crcGo_lt (l.take m) (r := 4294967295) (by decide)
  have hc : crcGo 4294967295 l = stps 32 (crcGo 4294967295 (l.take m) ^^^ wordV (l.drop m)) := by
    conv => lhs; rw [hl, crcGo_append, crcGo_le4 _ _ hw]
  rw [ht, hc]
  unfold crcV
  rw [← xor_ones _ hR]
  generalize crcGo 4294967295 (l.take m) = R at hR ⊢
  generalize wordV (l.drop m) = w at hw ⊢
  have hx : R ^^^ (4294967295 ^^^ R) = 4294967295 := by rw [Nat.xor_comm, Nat.xor_assoc, Nat.xor_self, Nat.xor_zero]
  constructor
  · intro h; rw [h, hx]
  · intro h
    have h2 := stps_inj 32 (xor_lt32 hR hw) (by decide) h
    rw [← h2, Nat.xor_comm R w, Nat.xor_assoc, Nat.xor_self, Nat.xor_zero]
theorem xor_ne (a b : Nat) (h : b ≠ 0) : a ^^^ b ≠ a := by
  intro h2
  apply h
  have := congrArg (fun x => a ^^^ x) h2
  simp only [← Nat.xor_assoc, Nat.xor_self, Nat.zero_xor] at this
  exact this
theorem turned_law (body behind : List UInt8) (hn : body.length ≤ 20000) (ks : List Nat) (hk : ∀ k ∈ ks, k < 8 * (body.length + 12))
    (hS : syn 64 (ks.filter (· < 64)) ≠ 0 ∨ ((∀ k ∈ ks, 64 ≤ k) ∧ syn (8 * (body.length + 12)) ks ≠ 0)) :
    readFrameV (fl (frameB body ++ behind) ks) 0 = ([], 0, 16) := by
  have hfl := frameB_len body
  have hL : (fl (frameB body ++ behind) ks).length = body.length + 12 + behind.length := by rw [fl_len, List.length_append, hfl]
  have h8 : (frameB body ++ behind).take 8 = le4 body.length ++ le4 (crcV (le4 body.length)) := by
    have : frameB body ++ behind = (le4 body.length ++ le4 (crcV (le4 body.length))) ++ (body ++ le4 (crcV body) ++ behind) := by simp [frameB]
    rw [this]; exact take_len _ _ 8 (by simp [le4_len])
  have hH : crcGo 4294967295 (le4 body.length ++ le4 (crcV (le4 body.length))) = stps 32 4294967295 := by
    refine (sum_fits _ 4 (by simp [le4_len])).1 ?_
    rw [drop_len _ _ 4 (le4_len _), take_len _ _ 4 (le4_len _), List.take_of_length_le (by simp [le4_len]), wordV_le4 _ (crcV_lt _)]
  have hB : crcGo 4294967295 (body ++ le4 (crcV body)) = stps 32 4294967295 := by
    refine (sum_fits _ body.length (by simp [le4_len])).1 ?_
    rw [drop_len _ _ _ rfl, take_len _ _ _ rfl, List.take_of_length_le (by simp [le4_len]), wordV_le4 _ (crcV_lt _)]
  have hT := fl_take 8 ks (frameB body ++ behind)
  rw [h8] at hT
  have hHead := sum_fits ((fl (frameB body ++ behind) ks).take 8) 4 (by rw [List.length_take]; omega)
  rw [List.take_take, List.drop_take, List.take_take] at hHead
  simp only [show min 4 8 = 4 from rfl, show min 4 (8 - 4) = 4 from rfl] at hHead
  unfold readFrameV
  rw [if_neg (by rw [hL]; omega)]
  simp only [Int.toNat_zero, List.drop_zero]
  rw [if_neg (by rw [hL]; omega)]
  rcases hS with hS | ⟨h64, hS⟩
  · rw [if_pos]
    intro h
    have h2 := hHead.1 h
    rw [hT, crcGo_fl _ _ _ (by intro k hk; simp [le4_len] at hk ⊢; exact hk.2), hH] at h2
    refine xor_ne _ _ ?_ h2
    simpa [le4_len] using hS
  · have hF : ks.filter (· < 8 * 8) = [] := List.filter_eq_nil_iff.2 fun k hk => by have := h64 k hk; simp; omega
    rw [hF] at hT
    have hT : (fl (frameB body ++ behind) ks).take 8 = le4 body.length ++ le4 (crcV (le4 body.length)) := hT
    have hfit := hHead.2 (by rw [hT, hH])
    have h4 : (fl (frameB body ++ behind) ks).take 4 = le4 body.length := by
      have : (fl (frameB body ++ behind) ks).take 4 = ((fl (frameB body ++ behind) ks).take 8).take 4 := by rw [List.take_take]; rfl
      rw [this, hT]; exact take_len _ _ 4 (le4_len _)
    rw [if_neg (by simpa using hfit), h4, wordV_le4 _ (by omega)]
    rw [if_neg (by omega), if_neg (by rw [hL]; omega), if_pos]
    have hD := fl_drop 8 ks (frameB body ++ behind) h64
    have hd8 : (frameB body ++ behind).drop 8 = (body ++ le4 (crcV body)) ++ behind := by
      have : frameB body ++ behind = (le4 body.length ++ le4 (crcV (le4 body.length))) ++ (body ++ le4 (crcV body) ++ behind) := by simp [frameB]
      rw [this]; exact drop_len _ _ 8 (by simp [le4_len])
    have hBd := sum_fits (((fl (frameB body ++ behind) ks).drop 8).take (body.length + 4)) body.length (by rw [List.length_take, List.length_drop]; omega)
    rw [List.take_take, List.drop_take, List.take_take, List.drop_drop] at hBd
    simp only [show min body.length (body.length + 4) = body.length by omega, show min 4 (body.length + 4 - body.length) = 4 by omega] at hBd
    intro h
    have h2 := hBd.1 (by simpa [Nat.add_comm] using h)
    rw [hD, fl_take, List.filter_eq_self.2 (by
      intro k hk2
      obtain ⟨j, hj, rfl⟩ := List.mem_map.1 hk2
      have := hk j hj
      simp; omega), hd8, take_len _ _ (body.length + 4) (by simp [le4_len])] at h2
    rw [crcGo_fl _ _ _ (by
      intro k hk2
      obtain ⟨j, hj, rfl⟩ := List.mem_map.1 hk2
      have := hk j hj
      have := h64 j hj
      simp [le4_len]; omega), hB, syn_map _ _ _ h64] at h2
    refine xor_ne _ _ ?_ h2
    have e : 8 * (body ++ le4 (crcV body)).length + 8 * 8 = 8 * (body.length + 12) := by simp [le4_len]; omega
    rw [e]; exact hS
theorem stps_ne {p q : Nat} (h : p < q) (hq : q ≤ 161000) : stps p 1 ≠ stps q 1 := by
  intro h2
  have e : stps q 1 = stps p (stps (q - p) 1) := by rw [← stps_add, show q - p + p = q by omega]
  rw [e] at h2
  exact order (by omega) (by omega) (stps_inj p (by decide) (stps_lt _ (by decide)) h2).symm
theorem syn_bits (N : Nat) (hN : N ≤ 161000) (ks : List Nat) (hk : ∀ k ∈ ks, k < N) (hd : ks.Nodup) (h0 : ks ≠ []) (h3 : ks.length ≤ 3) : syn N ks ≠ 0 := by
  match ks, h0, h3 with
  | [a], _, _ =>
    intro h
    rw [syn, syn, xor_zero_r] at h
    exact absurd (stps_zero _ (by decide) h) (by decide)
  | [a, b], _, _ =>
    intro h
    rw [syn, syn, syn, xor_zero_r] at h
    have h := xor_zero' h
    have ha := hk a (by simp)
    have hb := hk b (by simp)
    have hab : a ≠ b := by simpa using hd
    rcases Nat.lt_or_ge (N - a) (N - b) with h1 | h1
    · exact stps_ne h1 (by omega) h
    · exact stps_ne (show N - b < N - a by omega) (by omega) h.symm
  | [a, b, c], _, _ =>
    intro h
    have := congrArg (par 32) h
    rw [syn, syn, syn, syn, xor_zero_r, par_xor, par_xor, par_stps _ (by decide), par_stps _ (by decide), par_stps _ (by decide)] at this
    revert this
    decide
theorem turned_bits (body behind : List UInt8) (hn : body.length ≤ 20000) (ks : List Nat) (hk : ∀ k ∈ ks, k < 8 * (body.length + 12)) (hd : ks.Nodup) (h0 : ks ≠ []) (h3 : ks.length ≤ 3) :
    readFrameV (fl (frameB body ++ behind) ks) 0 = ([], 0, 16) := by
  refine turned_law body behind hn ks hk ?_
  by_cases h : ks.filter (· < 64) = []
  · right
    refine ⟨fun k hk2 => ?_, syn_bits _ (by omega) ks hk hd h0 h3⟩
    have := List.filter_eq_nil_iff.1 h k hk2
    simpa using this
  · left
    exact syn_bits 64 (by decide) _ (by intro k hk; simpa using (List.mem_filter.1 hk).2) (hd.filter _) h (Nat.le_trans (List.length_filter_le _ _) h3)
/-- The places of a pattern's bits, so far. -/
def pos (at_ hi p : Nat) : Nat → List Nat
  | 0 => []
  | i + 1 => if p / 2 ^ i % 2 = 1 ∧ at_ + i < hi then pos at_ hi p i ++ [at_ + i] else pos at_ hi p i
theorem pos_mem (at_ hi p : Nat) (i : Nat) : ∀ k ∈ pos at_ hi p i, at_ ≤ k ∧ k < hi := by
  induction i with
  | zero => intro k hk; cases hk
  | succ i ih =>
    intro k hk
    unfold pos at hk
    split at hk
    · rename_i h
      rcases List.mem_append.1 hk with h1 | h1
      · exact ih k h1
      · have := List.mem_singleton.1 h1; omega
    · exact ih k hk
theorem syn_pos (at_ hi p : Nat) (i : Nat) : ∃ Q, Q < 2 ^ i ∧ syn hi (pos at_ hi p i) = stps (hi - at_) Q ∧ (pos at_ hi p i ≠ [] → Q ≠ 0) := by
  induction i with
  | zero => exact ⟨0, by decide, (stps_of_zero _).symm, fun h => absurd rfl h⟩
  | succ i ih =>
    obtain ⟨Q, h1, h2, h3⟩ := ih
    unfold pos
    split
    · rename_i h
      refine ⟨Q ^^^ 2 ^ i, Nat.xor_lt_two_pow (Nat.lt_trans h1 (Nat.pow_lt_pow_right (by decide) (by omega))) (Nat.pow_lt_pow_right (by decide) (by omega)), ?_, fun _ h4 => ?_⟩
      · have := stps_add i (hi - at_ - i) (2 ^ i)
        rw [stps_pow, show i + (hi - at_ - i) = hi - at_ by omega, show hi - at_ - i = hi - (at_ + i) by omega] at this
        rw [syn_append, h2, stps_xor, this, syn, syn, xor_zero_r]
      · have := xor_zero' h4; omega
    · exact ⟨Q, Nat.lt_trans h1 (Nat.pow_lt_pow_right (by decide) (by omega)), h2, h3⟩
theorem turned_pos (body behind : List UInt8) (hn : body.length ≤ 20000) (at_ hi p : Nat) (hh : (hi = 64) ∨ (64 ≤ at_ ∧ hi = 8 * (body.length + 12))) (h0 : pos at_ hi p 32 ≠ []) :
    readFrameV (fl (frameB body ++ behind) (pos at_ hi p 32)) 0 = ([], 0, 16) := by
  have hm := pos_mem at_ hi p 32
  obtain ⟨Q, h1, h2, h3⟩ := syn_pos at_ hi p 32
  have hne : syn hi (pos at_ hi p 32) ≠ 0 := by rw [h2]; exact fun h => h3 h0 (stps_zero _ h1 h)
  refine turned_law body behind hn _ (fun k hk => by have := hm k hk; omega) ?_
  rcases hh with rfl | ⟨h64, rfl⟩
  · left
    rw [List.filter_eq_self.2 (fun k hk => by have := hm k hk; simpa using this.2)]
    exact hne
  · right
    exact ⟨fun k hk => by have := hm k hk; omega, hne⟩
end Go.Proofs.YtpeomdobcobdiaaDoor
