/- Plain words for WireTurned: turned bits are found. No program in sight; no condition. -/
import Derived.Test.YtpeomdobcobdiaaDoorLaw1
namespace Go.Proofs.YtpeomdobcobdiaaDoor
set_option linter.unusedVariables false
set_option linter.unusedSimpArgs false
theorem xor_zero' {a b : Nat} (h : a ^^^ b = 0) : a = b := by
  apply Nat.eq_of_testBit_eq; intro i
  have := congrArg (fun n => n.testBit i) h
  simp only [Nat.testBit_xor, Nat.zero_testBit] at this
  generalize a.testBit i = x at *; generalize b.testBit i = y at *
  cases x <;> cases y <;> first | rfl | cases this
theorem xor_self' (a : Nat) : a ^^^ a = 0 := Nat.xor_self a
theorem stp_zero {r : Nat} (h : r < 4294967296) (h0 : stp r = 0) : r = 0 := by
  unfold stp at h0
  split at h0
  · have := xor_zero' h0; unfold poly at this; omega
  · omega
theorem stps_zero (n : Nat) : ∀ {r : Nat}, r < 4294967296 → stps n r = 0 → r = 0 := by
  induction n with
  | zero => intro r _ h; exact h
  | succ n ih => intro r h h0; exact stp_zero h (ih (stp_lt h) h0)
theorem stps_inj (n : Nat) {a b : Nat} (ha : a < 4294967296) (hb : b < 4294967296) (h : stps n a = stps n b) : a = b := by
  apply xor_zero'
  apply stps_zero n (xor_lt32 ha hb)
  rw [stps_xor, h, xor_self']
theorem stps_of_zero (n : Nat) : stps n 0 = 0 := by
  induction n with
  | zero => rfl
  | succ n ih => simp only [stps]; rw [show stp 0 = 0 by decide]; exact ih
/-- The parity of bits. -/
def par : Nat → Nat → Bool
  | 0, _ => false
  | n + 1, r => (r.testBit n) ^^ par n r
theorem par_xor (n : Nat) (a b : Nat) : par n (a ^^^ b) = (par n a ^^ par n b) := by
  induction n with
  | zero => rfl
  | succ n ih =>
    simp only [par, ih, Nat.testBit_xor]
    generalize a.testBit n = x; generalize b.testBit n = y; generalize par n a = z; generalize par n b = t
    cases x <;> cases y <;> cases z <;> cases t <;> rfl
theorem par_half (n r : Nat) : par n (r / 2) = (par (n + 1) r ^^ r.testBit 0) := by
  induction n with
  | zero => simp [par]
  | succ n ih =>
    rw [show par (n + 1) (r / 2) = ((r / 2).testBit n ^^ par n (r / 2)) from rfl, ih, Nat.testBit_div_two, show par (n + 1 + 1) r = (r.testBit (n + 1) ^^ par (n + 1) r) from rfl, Bool.xor_assoc]
theorem par_stp {r : Nat} (h : r < 4294967296) : par 32 (stp r) = par 32 r := by
  have h1 := par_half 32 r
  rw [show par (32 + 1) r = (r.testBit 32 ^^ par 32 r) from rfl, Nat.testBit_lt_two_pow (show r < 2 ^ 32 from h), Nat.testBit_zero] at h1
  unfold stp
  split
  · rename_i h2
    rw [par_xor, h1, show par 32 poly = true by decide, h2]
    cases par 32 r <;> rfl
  · rename_i h2
    rw [h1]; simp [h2]
theorem par_stps (n : Nat) : ∀ {r : Nat}, r < 4294967296 → par 32 (stps n r) = par 32 r := by
  induction n with
  | zero => intro r _; rfl
  | succ n ih => intro r h; rw [show stps (n + 1) r = stps n (stp r) from rfl, ih (stp_lt h), par_stp h]
/-- So many steps, none of which meets 1 ahead of its end. -/
def run : Nat → Nat → Nat → Bool
  | 0, r, e => Nat.beq r e
  | n + 1, r, e => bif Nat.beq r 1 then false else run n (Nat.xor (Nat.div r 2) (Nat.mul 2197175160 (Nat.mod r 2))) e
theorem stp_mul (r : Nat) : stp r = r / 2 ^^^ 2197175160 * (r % 2) := by
  unfold stp poly
  split
  · rename_i h; rw [h]
  · rename_i h; rw [show r % 2 = 0 by omega]; simp
theorem run_sound (n : Nat) : ∀ r e, run n r e = true → stps n r = e ∧ ∀ d, d < n → stps d r ≠ 1 := by
  induction n with
  | zero => intro r e h; exact ⟨Nat.eq_of_beq_eq_true h, fun d hd => absurd hd (Nat.not_lt_zero d)⟩
  | succ n ih =>
    intro r e h
    unfold run at h
    cases hb : Nat.beq r 1 with
    | true => rw [hb] at h; cases h
    | false =>
      rw [hb] at h
      have h2 := ih _ e h
      rw [show Nat.xor (Nat.div r 2) (Nat.mul 2197175160 (Nat.mod r 2)) = stp r from (stp_mul r).symm] at h2
      refine ⟨h2.1, fun d hd => ?_⟩
      cases d with
      | zero => exact Nat.ne_of_beq_eq_false hb
      | succ d => exact h2.2 d (by omega)
theorem run_join {n m r e f k : Nat} (hk : n + m = k) (h1 : stps n r = e ∧ ∀ d, d < n → stps d r ≠ 1) (h2 : run m e f = true) : stps k r = f ∧ ∀ d, d < k → stps d r ≠ 1 := by
  have h2 := run_sound m e f h2
  subst hk
  refine ⟨by rw [stps_add, h1.1, h2.1], fun d hd => ?_⟩
  rcases Nat.lt_or_ge d n with h | h
  · exact h1.2 d h
  · have := h2.2 (d - n) (by omega)
    rwa [← h1.1, ← stps_add, show n + (d - n) = d by omega] at this
theorem run0 : run 2000 2197175160 362552295 = true := by kernel_rfl
theorem run1 : run 2000 362552295 3088434475 = true := by kernel_rfl
theorem run2 : run 2000 3088434475 2829366108 = true := by kernel_rfl
theorem run3 : run 2000 2829366108 1884686799 = true := by kernel_rfl
theorem run4 : run 2000 1884686799 2168148306 = true := by kernel_rfl
theorem run5 : run 2000 2168148306 2229027678 = true := by kernel_rfl
theorem run6 : run 2000 2229027678 2664832075 = true := by kernel_rfl
theorem run7 : run 2000 2664832075 3847472655 = true := by kernel_rfl
theorem run8 : run 2000 3847472655 1282830982 = true := by kernel_rfl
theorem run9 : run 2000 1282830982 3426082816 = true := by kernel_rfl
theorem run10 : run 2000 3426082816 1158385937 = true := by kernel_rfl
theorem run11 : run 2000 1158385937 1798981441 = true := by kernel_rfl
theorem run12 : run 2000 1798981441 3187991206 = true := by kernel_rfl
theorem run13 : run 2000 3187991206 4070023661 = true := by kernel_rfl
theorem run14 : run 2000 4070023661 4125614104 = true := by kernel_rfl
theorem run15 : run 2000 4125614104 2550660405 = true := by kernel_rfl
theorem run16 : run 2000 2550660405 256787940 = true := by kernel_rfl
theorem run17 : run 2000 256787940 1506005871 = true := by kernel_rfl
theorem run18 : run 2000 1506005871 1449343053 = true := by kernel_rfl
theorem run19 : run 2000 1449343053 2217394620 = true := by kernel_rfl
theorem run20 : run 2000 2217394620 3608390833 = true := by kernel_rfl
theorem run21 : run 2000 3608390833 729794952 = true := by kernel_rfl
theorem run22 : run 2000 729794952 521198646 = true := by kernel_rfl
theorem run23 : run 2000 521198646 1503576203 = true := by kernel_rfl
theorem run24 : run 2000 1503576203 4132843045 = true := by kernel_rfl
theorem run25 : run 2000 4132843045 1930255760 = true := by kernel_rfl
theorem run26 : run 2000 1930255760 575707931 = true := by kernel_rfl
theorem run27 : run 2000 575707931 1845441617 = true := by kernel_rfl
theorem run28 : run 2000 1845441617 1155315944 = true := by kernel_rfl
theorem run29 : run 2000 1155315944 4175146086 = true := by kernel_rfl
theorem run30 : run 2000 4175146086 3686903198 = true := by kernel_rfl
theorem run31 : run 2000 3686903198 1113511689 = true := by kernel_rfl
theorem run32 : run 2000 1113511689 3422730600 = true := by kernel_rfl
theorem run33 : run 2000 3422730600 911864551 = true := by kernel_rfl
theorem run34 : run 2000 911864551 3297896858 = true := by kernel_rfl
theorem run35 : run 2000 3297896858 1975176979 = true := by kernel_rfl
theorem run36 : run 2000 1975176979 160121466 = true := by kernel_rfl
theorem run37 : run 2000 160121466 1595951320 = true := by kernel_rfl
theorem run38 : run 2000 1595951320 672786106 = true := by kernel_rfl
theorem run39 : run 2000 672786106 2063622580 = true := by kernel_rfl
theorem run40 : run 2000 2063622580 3702539100 = true := by kernel_rfl
theorem run41 : run 2000 3702539100 1193669015 = true := by kernel_rfl
theorem run42 : run 2000 1193669015 2827729999 = true := by kernel_rfl
theorem run43 : run 2000 2827729999 1968718787 = true := by kernel_rfl
theorem run44 : run 2000 1968718787 1766840206 = true := by kernel_rfl
theorem run45 : run 2000 1766840206 4123658418 = true := by kernel_rfl
theorem run46 : run 2000 4123658418 3586171525 = true := by kernel_rfl
theorem run47 : run 2000 3586171525 1760891367 = true := by kernel_rfl
theorem run48 : run 2000 1760891367 1786858739 = true := by kernel_rfl
theorem run49 : run 2000 1786858739 3262795645 = true := by kernel_rfl
theorem run50 : run 2000 3262795645 859439423 = true := by kernel_rfl
theorem run51 : run 2000 859439423 1956578872 = true := by kernel_rfl
theorem run52 : run 2000 1956578872 3338174976 = true := by kernel_rfl
theorem run53 : run 2000 3338174976 4134878968 = true := by kernel_rfl
theorem run54 : run 2000 4134878968 4098335884 = true := by kernel_rfl
theorem run55 : run 2000 4098335884 795577980 = true := by kernel_rfl
theorem run56 : run 2000 795577980 2516031267 = true := by kernel_rfl
theorem run57 : run 2000 2516031267 2698122736 = true := by kernel_rfl
theorem run58 : run 2000 2698122736 1839362515 = true := by kernel_rfl
theorem run59 : run 2000 1839362515 2467451889 = true := by kernel_rfl
theorem run60 : run 2000 2467451889 3752687733 = true := by kernel_rfl
theorem run61 : run 2000 3752687733 1748979100 = true := by kernel_rfl
theorem run62 : run 2000 1748979100 2999395206 = true := by kernel_rfl
theorem run63 : run 2000 2999395206 3774376864 = true := by kernel_rfl
theorem run64 : run 2000 3774376864 4008692626 = true := by kernel_rfl
theorem run65 : run 2000 4008692626 788005522 = true := by kernel_rfl
theorem run66 : run 2000 788005522 3254551130 = true := by kernel_rfl
theorem run67 : run 2000 3254551130 1701717700 = true := by kernel_rfl
theorem run68 : run 2000 1701717700 3756581002 = true := by kernel_rfl
theorem run69 : run 2000 3756581002 2990494153 = true := by kernel_rfl
theorem run70 : run 2000 2990494153 3735916491 = true := by kernel_rfl
theorem run71 : run 2000 3735916491 958663750 = true := by kernel_rfl
theorem run72 : run 2000 958663750 3288950290 = true := by kernel_rfl
theorem run73 : run 2000 3288950290 1787575480 = true := by kernel_rfl
theorem run74 : run 2000 1787575480 2469031114 = true := by kernel_rfl
theorem run75 : run 2000 2469031114 3523068185 = true := by kernel_rfl
theorem run76 : run 2000 3523068185 1928910418 = true := by kernel_rfl
theorem run77 : run 2000 1928910418 2496553490 = true := by kernel_rfl
theorem run78 : run 2000 2496553490 1079189532 = true := by kernel_rfl
theorem run79 : run 2000 1079189532 3904656196 = true := by kernel_rfl
theorem run80 : run 2000 3904656196 543876249 = true := by kernel_rfl
theorem runs0 : stps 2000 2197175160 = 362552295 ∧ ∀ d, d < 2000 → stps d 2197175160 ≠ 1 := run_sound _ _ _ run0
theorem runs1 : stps 4000 2197175160 = 3088434475 ∧ ∀ d, d < 4000 → stps d 2197175160 ≠ 1 := run_join (by decide) runs0 run1
theorem runs2 : stps 6000 2197175160 = 2829366108 ∧ ∀ d, d < 6000 → stps d 2197175160 ≠ 1 := run_join (by decide) runs1 run2
theorem runs3 : stps 8000 2197175160 = 1884686799 ∧ ∀ d, d < 8000 → stps d 2197175160 ≠ 1 := run_join (by decide) runs2 run3
theorem runs4 : stps 10000 2197175160 = 2168148306 ∧ ∀ d, d < 10000 → stps d 2197175160 ≠ 1 := run_join (by decide) runs3 run4
theorem runs5 : stps 12000 2197175160 = 2229027678 ∧ ∀ d, d < 12000 → stps d 2197175160 ≠ 1 := run_join (by decide) runs4 run5
theorem runs6 : stps 14000 2197175160 = 2664832075 ∧ ∀ d, d < 14000 → stps d 2197175160 ≠ 1 := run_join (by decide) runs5 run6
theorem runs7 : stps 16000 2197175160 = 3847472655 ∧ ∀ d, d < 16000 → stps d 2197175160 ≠ 1 := run_join (by decide) runs6 run7
theorem runs8 : stps 18000 2197175160 = 1282830982 ∧ ∀ d, d < 18000 → stps d 2197175160 ≠ 1 := run_join (by decide) runs7 run8
theorem runs9 : stps 20000 2197175160 = 3426082816 ∧ ∀ d, d < 20000 → stps d 2197175160 ≠ 1 := run_join (by decide) runs8 run9
theorem runs10 : stps 22000 2197175160 = 1158385937 ∧ ∀ d, d < 22000 → stps d 2197175160 ≠ 1 := run_join (by decide) runs9 run10
theorem runs11 : stps 24000 2197175160 = 1798981441 ∧ ∀ d, d < 24000 → stps d 2197175160 ≠ 1 := run_join (by decide) runs10 run11
theorem runs12 : stps 26000 2197175160 = 3187991206 ∧ ∀ d, d < 26000 → stps d 2197175160 ≠ 1 := run_join (by decide) runs11 run12
theorem runs13 : stps 28000 2197175160 = 4070023661 ∧ ∀ d, d < 28000 → stps d 2197175160 ≠ 1 := run_join (by decide) runs12 run13
theorem runs14 : stps 30000 2197175160 = 4125614104 ∧ ∀ d, d < 30000 → stps d 2197175160 ≠ 1 := run_join (by decide) runs13 run14
theorem runs15 : stps 32000 2197175160 = 2550660405 ∧ ∀ d, d < 32000 → stps d 2197175160 ≠ 1 := run_join (by decide) runs14 run15
theorem runs16 : stps 34000 2197175160 = 256787940 ∧ ∀ d, d < 34000 → stps d 2197175160 ≠ 1 := run_join (by decide) runs15 run16
theorem runs17 : stps 36000 2197175160 = 1506005871 ∧ ∀ d, d < 36000 → stps d 2197175160 ≠ 1 := run_join (by decide) runs16 run17
theorem runs18 : stps 38000 2197175160 = 1449343053 ∧ ∀ d, d < 38000 → stps d 2197175160 ≠ 1 := run_join (by decide) runs17 run18
theorem runs19 : stps 40000 2197175160 = 2217394620 ∧ ∀ d, d < 40000 → stps d 2197175160 ≠ 1 := run_join (by decide) runs18 run19
theorem runs20 : stps 42000 2197175160 = 3608390833 ∧ ∀ d, d < 42000 → stps d 2197175160 ≠ 1 := run_join (by decide) runs19 run20
theorem runs21 : stps 44000 2197175160 = 729794952 ∧ ∀ d, d < 44000 → stps d 2197175160 ≠ 1 := run_join (by decide) runs20 run21
theorem runs22 : stps 46000 2197175160 = 521198646 ∧ ∀ d, d < 46000 → stps d 2197175160 ≠ 1 := run_join (by decide) runs21 run22
theorem runs23 : stps 48000 2197175160 = 1503576203 ∧ ∀ d, d < 48000 → stps d 2197175160 ≠ 1 := run_join (by decide) runs22 run23
theorem runs24 : stps 50000 2197175160 = 4132843045 ∧ ∀ d, d < 50000 → stps d 2197175160 ≠ 1 := run_join (by decide) runs23 run24
theorem runs25 : stps 52000 2197175160 = 1930255760 ∧ ∀ d, d < 52000 → stps d 2197175160 ≠ 1 := run_join (by decide) runs24 run25
theorem runs26 : stps 54000 2197175160 = 575707931 ∧ ∀ d, d < 54000 → stps d 2197175160 ≠ 1 := run_join (by decide) runs25 run26
theorem runs27 : stps 56000 2197175160 = 1845441617 ∧ ∀ d, d < 56000 → stps d 2197175160 ≠ 1 := run_join (by decide) runs26 run27
theorem runs28 : stps 58000 2197175160 = 1155315944 ∧ ∀ d, d < 58000 → stps d 2197175160 ≠ 1 := run_join (by decide) runs27 run28
theorem runs29 : stps 60000 2197175160 = 4175146086 ∧ ∀ d, d < 60000 → stps d 2197175160 ≠ 1 := run_join (by decide) runs28 run29
theorem runs30 : stps 62000 2197175160 = 3686903198 ∧ ∀ d, d < 62000 → stps d 2197175160 ≠ 1 := run_join (by decide) runs29 run30
theorem runs31 : stps 64000 2197175160 = 1113511689 ∧ ∀ d, d < 64000 → stps d 2197175160 ≠ 1 := run_join (by decide) runs30 run31
theorem runs32 : stps 66000 2197175160 = 3422730600 ∧ ∀ d, d < 66000 → stps d 2197175160 ≠ 1 := run_join (by decide) runs31 run32
theorem runs33 : stps 68000 2197175160 = 911864551 ∧ ∀ d, d < 68000 → stps d 2197175160 ≠ 1 := run_join (by decide) runs32 run33
theorem runs34 : stps 70000 2197175160 = 3297896858 ∧ ∀ d, d < 70000 → stps d 2197175160 ≠ 1 := run_join (by decide) runs33 run34
theorem runs35 : stps 72000 2197175160 = 1975176979 ∧ ∀ d, d < 72000 → stps d 2197175160 ≠ 1 := run_join (by decide) runs34 run35
theorem runs36 : stps 74000 2197175160 = 160121466 ∧ ∀ d, d < 74000 → stps d 2197175160 ≠ 1 := run_join (by decide) runs35 run36
theorem runs37 : stps 76000 2197175160 = 1595951320 ∧ ∀ d, d < 76000 → stps d 2197175160 ≠ 1 := run_join (by decide) runs36 run37
theorem runs38 : stps 78000 2197175160 = 672786106 ∧ ∀ d, d < 78000 → stps d 2197175160 ≠ 1 := run_join (by decide) runs37 run38
theorem runs39 : stps 80000 2197175160 = 2063622580 ∧ ∀ d, d < 80000 → stps d 2197175160 ≠ 1 := run_join (by decide) runs38 run39
theorem runs40 : stps 82000 2197175160 = 3702539100 ∧ ∀ d, d < 82000 → stps d 2197175160 ≠ 1 := run_join (by decide) runs39 run40
theorem runs41 : stps 84000 2197175160 = 1193669015 ∧ ∀ d, d < 84000 → stps d 2197175160 ≠ 1 := run_join (by decide) runs40 run41
theorem runs42 : stps 86000 2197175160 = 2827729999 ∧ ∀ d, d < 86000 → stps d 2197175160 ≠ 1 := run_join (by decide) runs41 run42
theorem runs43 : stps 88000 2197175160 = 1968718787 ∧ ∀ d, d < 88000 → stps d 2197175160 ≠ 1 := run_join (by decide) runs42 run43
theorem runs44 : stps 90000 2197175160 = 1766840206 ∧ ∀ d, d < 90000 → stps d 2197175160 ≠ 1 := run_join (by decide) runs43 run44
theorem runs45 : stps 92000 2197175160 = 4123658418 ∧ ∀ d, d < 92000 → stps d 2197175160 ≠ 1 := run_join (by decide) runs44 run45
theorem runs46 : stps 94000 2197175160 = 3586171525 ∧ ∀ d, d < 94000 → stps d 2197175160 ≠ 1 := run_join (by decide) runs45 run46
theorem runs47 : stps 96000 2197175160 = 1760891367 ∧ ∀ d, d < 96000 → stps d 2197175160 ≠ 1 := run_join (by decide) runs46 run47
theorem runs48 : stps 98000 2197175160 = 1786858739 ∧ ∀ d, d < 98000 → stps d 2197175160 ≠ 1 := run_join (by decide) runs47 run48
theorem runs49 : stps 100000 2197175160 = 3262795645 ∧ ∀ d, d < 100000 → stps d 2197175160 ≠ 1 := run_join (by decide) runs48 run49
theorem runs50 : stps 102000 2197175160 = 859439423 ∧ ∀ d, d < 102000 → stps d 2197175160 ≠ 1 := run_join (by decide) runs49 run50
theorem runs51 : stps 104000 2197175160 = 1956578872 ∧ ∀ d, d < 104000 → stps d 2197175160 ≠ 1 := run_join (by decide) runs50 run51
theorem runs52 : stps 106000 2197175160 = 3338174976 ∧ ∀ d, d < 106000 → stps d 2197175160 ≠ 1 := run_join (by decide) runs51 run52
theorem runs53 : stps 108000 2197175160 = 4134878968 ∧ ∀ d, d < 108000 → stps d 2197175160 ≠ 1 := run_join (by decide) runs52 run53
theorem runs54 : stps 110000 2197175160 = 4098335884 ∧ ∀ d, d < 110000 → stps d 2197175160 ≠ 1 := run_join (by decide) runs53 run54
theorem runs55 : stps 112000 2197175160 = 795577980 ∧ ∀ d, d < 112000 → stps d 2197175160 ≠ 1 := run_join (by decide) runs54 run55
theorem runs56 : stps 114000 2197175160 = 2516031267 ∧ ∀ d, d < 114000 → stps d 2197175160 ≠ 1 := run_join (by decide) runs55 run56
theorem runs57 : stps 116000 2197175160 = 2698122736 ∧ ∀ d, d < 116000 → stps d 2197175160 ≠ 1 := run_join (by decide) runs56 run57
theorem runs58 : stps 118000 2197175160 = 1839362515 ∧ ∀ d, d < 118000 → stps d 2197175160 ≠ 1 := run_join (by decide) runs57 run58
theorem runs59 : stps 120000 2197175160 = 2467451889 ∧ ∀ d, d < 120000 → stps d 2197175160 ≠ 1 := run_join (by decide) runs58 run59
theorem runs60 : stps 122000 2197175160 = 3752687733 ∧ ∀ d, d < 122000 → stps d 2197175160 ≠ 1 := run_join (by decide) runs59 run60
theorem runs61 : stps 124000 2197175160 = 1748979100 ∧ ∀ d, d < 124000 → stps d 2197175160 ≠ 1 := run_join (by decide) runs60 run61
theorem runs62 : stps 126000 2197175160 = 2999395206 ∧ ∀ d, d < 126000 → stps d 2197175160 ≠ 1 := run_join (by decide) runs61 run62
theorem runs63 : stps 128000 2197175160 = 3774376864 ∧ ∀ d, d < 128000 → stps d 2197175160 ≠ 1 := run_join (by decide) runs62 run63
theorem runs64 : stps 130000 2197175160 = 4008692626 ∧ ∀ d, d < 130000 → stps d 2197175160 ≠ 1 := run_join (by decide) runs63 run64
theorem runs65 : stps 132000 2197175160 = 788005522 ∧ ∀ d, d < 132000 → stps d 2197175160 ≠ 1 := run_join (by decide) runs64 run65
theorem runs66 : stps 134000 2197175160 = 3254551130 ∧ ∀ d, d < 134000 → stps d 2197175160 ≠ 1 := run_join (by decide) runs65 run66
theorem runs67 : stps 136000 2197175160 = 1701717700 ∧ ∀ d, d < 136000 → stps d 2197175160 ≠ 1 := run_join (by decide) runs66 run67
theorem runs68 : stps 138000 2197175160 = 3756581002 ∧ ∀ d, d < 138000 → stps d 2197175160 ≠ 1 := run_join (by decide) runs67 run68
theorem runs69 : stps 140000 2197175160 = 2990494153 ∧ ∀ d, d < 140000 → stps d 2197175160 ≠ 1 := run_join (by decide) runs68 run69
theorem runs70 : stps 142000 2197175160 = 3735916491 ∧ ∀ d, d < 142000 → stps d 2197175160 ≠ 1 := run_join (by decide) runs69 run70
theorem runs71 : stps 144000 2197175160 = 958663750 ∧ ∀ d, d < 144000 → stps d 2197175160 ≠ 1 := run_join (by decide) runs70 run71
theorem runs72 : stps 146000 2197175160 = 3288950290 ∧ ∀ d, d < 146000 → stps d 2197175160 ≠ 1 := run_join (by decide) runs71 run72
theorem runs73 : stps 148000 2197175160 = 1787575480 ∧ ∀ d, d < 148000 → stps d 2197175160 ≠ 1 := run_join (by decide) runs72 run73
theorem runs74 : stps 150000 2197175160 = 2469031114 ∧ ∀ d, d < 150000 → stps d 2197175160 ≠ 1 := run_join (by decide) runs73 run74
theorem runs75 : stps 152000 2197175160 = 3523068185 ∧ ∀ d, d < 152000 → stps d 2197175160 ≠ 1 := run_join (by decide) runs74 run75
theorem runs76 : stps 154000 2197175160 = 1928910418 ∧ ∀ d, d < 154000 → stps d 2197175160 ≠ 1 := run_join (by decide) runs75 run76
theorem runs77 : stps 156000 2197175160 = 2496553490 ∧ ∀ d, d < 156000 → stps d 2197175160 ≠ 1 := run_join (by decide) runs76 run77
theorem runs78 : stps 158000 2197175160 = 1079189532 ∧ ∀ d, d < 158000 → stps d 2197175160 ≠ 1 := run_join (by decide) runs77 run78
theorem runs79 : stps 160000 2197175160 = 3904656196 ∧ ∀ d, d < 160000 → stps d 2197175160 ≠ 1 := run_join (by decide) runs78 run79
theorem runs80 : stps 162000 2197175160 = 543876249 ∧ ∀ d, d < 162000 → stps d 2197175160 ≠ 1 := run_join (by decide) runs79 run80
theorem order {d : Nat} (h0 : 0 < d) (h : d < 162000) : stps d 1 ≠ 1 := by
  obtain ⟨k, rfl⟩ : ∃ k, d = k + 1 := ⟨d - 1, by omega⟩
  have := runs80.2 k (by omega)
  rwa [show (2197175160 : Nat) = stp 1 by decide] at this
end Go.Proofs.YtpeomdobcobdiaaDoor
