/- Whole numbers as floats of 64 bits: no program in sight. Every whole number below 2^53 has its word; sums, differences and products of such are such; order is the numbers' order. -/
import Derived.Laws.ComplexArith
namespace Go.Proofs.Ytbgllbjkmjlipaa
open Ieee

theorem d_binade : double.binade = 4503599627370496 := by decide
theorem d_sign : double.signWeight = 9223372036854775808 := by decide
theorem d_inf : double.infRung = 9218868437227405312 := by decide
theorem d_least : double.leastPlace = -1074 := by decide
theorem d_frac : double.fractionBits = 52 := rfl

theorem log2_mul_pow {N : Nat} (K : Nat) (h : N ≠ 0) : (N * 2 ^ K).log2 = N.log2 + K := by
  have h2 : N * 2 ^ K ≠ 0 := Nat.mul_ne_zero h (Nat.pos_iff_ne_zero.1 (Nat.two_pow_pos _))
  rw [Nat.log2_eq_iff h2]
  have h1 := (Nat.log2_eq_iff h (k := N.log2)).1 rfl
  rw [Nat.pow_add, show N.log2 + K + 1 = (N.log2 + 1) + K by omega, Nat.pow_add 2 (N.log2 + 1)]
  exact ⟨Nat.mul_le_mul_right _ h1.1, Nat.mul_lt_mul_of_pos_right h1.2 (Nat.two_pow_pos _)⟩
theorem cut_exact (neg : Bool) (n drop : Nat) (h : n ≠ 0) : Toward.even.cut neg (n * 2 ^ drop) drop = n := by
  unfold Toward.cut
  have h1 := log2_mul_pow drop h
  have h2 : min drop ((n * 2 ^ drop).log2 + 2) = drop := by omega
  have hp : 0 < 2 ^ drop := Nat.two_pow_pos _
  have hr : n * 2 ^ drop % 2 ^ drop = 0 := Nat.mul_mod_left _ _
  simp only [h2, Nat.one_shiftLeft, Nat.mul_div_cancel _ hp, hr]
  have e1 : decide (2 ^ drop < 2 * 0) = false := by simp
  have e2 : (2 ^ drop == 2 * 0) = false := by simp
  simp only [e1, e2]
  simp
theorem nearest_whole (neg : Bool) (N K : Nat) (h : N ≠ 0) (hN : N < 9007199254740992) : double.nearest neg (N * 2 ^ K) (-(K : Int)) = double.word neg ((N.log2 + 1022) * 4503599627370496 + N * 2 ^ (52 - N.log2)) := by
  have hlog : N.log2 < 53 := (Nat.log2_lt h).2 hN
  have h0 : N * 2 ^ K ≠ 0 := Nat.mul_ne_zero h (Nat.pos_iff_ne_zero.1 (Nat.two_pow_pos _))
  unfold Format.nearest
  rw [if_neg h0]
  dsimp only
  rw [d_least, d_frac, d_binade, d_inf, log2_mul_pow K h]
  have e1 : max (-(K : Int) + ((N.log2 + K : Nat) : Int) - ((52 : Nat) : Int)) (-1074) = (N.log2 : Int) - 52 := by omega
  rw [e1]
  have e2 : ((N.log2 : Int) - 52 - -1074).toNat = N.log2 + 1022 := by omega
  rw [e2]
  have hk : Toward.even.cut neg ((N * 2 ^ K) <<< (-(K : Int) - ((N.log2 : Int) - 52)).toNat) ((N.log2 : Int) - 52 - -(K : Int)).toNat = N * 2 ^ (52 - N.log2) := by
    rw [Nat.shiftLeft_eq]
    by_cases c : K ≤ 52 - N.log2
    · have a1 : (-(K : Int) - ((N.log2 : Int) - 52)).toNat = 52 - N.log2 - K := by omega
      have a2 : ((N.log2 : Int) - 52 - -(K : Int)).toNat = 0 := by omega
      rw [a1, a2, Nat.mul_assoc, ← Nat.pow_add, show K + (52 - N.log2 - K) = 52 - N.log2 by omega]
      have := cut_exact neg (N * 2 ^ (52 - N.log2)) 0 (Nat.mul_ne_zero h (Nat.pos_iff_ne_zero.1 (Nat.two_pow_pos _)))
      simpa using this
    · have a1 : (-(K : Int) - ((N.log2 : Int) - 52)).toNat = 0 := by omega
      have a2 : ((N.log2 : Int) - 52 - -(K : Int)).toNat = K - (52 - N.log2) := by omega
      rw [a1, a2, Nat.pow_zero, Nat.mul_one]
      have := cut_exact neg (N * 2 ^ (52 - N.log2)) (K - (52 - N.log2)) (Nat.mul_ne_zero h (Nat.pos_iff_ne_zero.1 (Nat.two_pow_pos _)))
      rw [Nat.mul_assoc, ← Nat.pow_add, show 52 - N.log2 + (K - (52 - N.log2)) = K by omega] at this
      exact this
  rw [hk]
  have hb : N * 2 ^ (52 - N.log2) < 9007199254740992 := by
    have h1 := ((Nat.log2_eq_iff h (k := N.log2)).1 rfl).2
    have := Nat.mul_lt_mul_of_pos_right h1 (Nat.two_pow_pos (52 - N.log2))
    rw [← Nat.pow_add, show N.log2 + 1 + (52 - N.log2) = 53 by omega] at this
    exact this
  congr 1
  omega
/-- A number's word, read. -/
theorem read_word (neg : Bool) (r : Nat) (h1 : 4503599627370496 ≤ r) (h2 : r < 9218868437227405312) : double.read (double.word neg r) = .number neg (4503599627370496 + r % 4503599627370496) (-1074 + ((r / 4503599627370496 - 1 : Nat) : Int)) := by
  unfold Format.read Format.word
  rw [d_binade, d_sign, d_inf, d_least]
  cases neg
  · have a1 : r / 9223372036854775808 = 0 := Nat.div_eq_of_lt (by omega)
    have a2 : r % 9223372036854775808 = r := Nat.mod_eq_of_lt (by omega)
    simp only [Bool.false_eq_true, if_false, a1, a2]
    rw [if_neg (by omega), if_pos h2]
    rfl
  · have a1 : (9223372036854775808 + r) / 9223372036854775808 = 1 := by omega
    have a2 : (9223372036854775808 + r) % 9223372036854775808 = r := by omega
    simp only [if_true, a1, a2]
    rw [if_neg (by omega), if_pos h2]
    rfl
theorem norm_bd {N : Nat} (h : N ≠ 0) (hN : N < 9007199254740992) : 4503599627370496 ≤ N * 2 ^ (52 - N.log2) ∧ N * 2 ^ (52 - N.log2) < 9007199254740992 := by
  have hlog : N.log2 < 53 := (Nat.log2_lt h).2 hN
  have h1 := (Nat.log2_eq_iff h (k := N.log2)).1 rfl
  have g1 := Nat.mul_le_mul_right (2 ^ (52 - N.log2)) h1.1
  have g2 := Nat.mul_lt_mul_of_pos_right h1.2 (Nat.two_pow_pos (52 - N.log2))
  rw [← Nat.pow_add, show N.log2 + (52 - N.log2) = 52 by omega] at g1
  rw [← Nat.pow_add, show N.log2 + 1 + (52 - N.log2) = 53 by omega] at g2
  exact ⟨g1, g2⟩
theorem read_nearest (neg : Bool) (N K : Nat) (h : N ≠ 0) (hN : N < 9007199254740992) : double.read (double.nearest neg (N * 2 ^ K) (-(K : Int))) = .number neg (N * 2 ^ (52 - N.log2)) (-((52 - N.log2 : Nat) : Int)) := by
  have hlog : N.log2 < 53 := (Nat.log2_lt h).2 hN
  have hb := norm_bd h hN
  rw [nearest_whole neg N K h hN]
  generalize N * 2 ^ (52 - N.log2) = m at hb
  rw [read_word _ _ (by omega) (by omega)]
  have e1 : ((N.log2 + 1022) * 4503599627370496 + m) % 4503599627370496 = m - 4503599627370496 := by omega
  have e2 : ((N.log2 + 1022) * 4503599627370496 + m) / 4503599627370496 = N.log2 + 1023 := by omega
  have e3 : 4503599627370496 + (m - 4503599627370496) = m := by omega
  have e4 : -1074 + ((N.log2 + 1023 - 1 : Nat) : Int) = -((52 - N.log2 : Nat) : Int) := by omega
  rw [e1, e2, e3, e4]

/-- The word of a whole number; z: of nought, is it the one below? -/
def wd (z : Bool) (n : Int) : Nat := double.write (.number (if n = 0 then z else decide (n < 0)) n.natAbs 0)
def sg (z : Bool) (n : Int) : Bool := if n = 0 then z else decide (n < 0)
theorem wd_lt (z : Bool) (n : Int) : wd z n < 18446744073709551616 := double.write_lt _
theorem wd_write (z : Bool) (n : Int) (K : Nat) (hn : n.natAbs < 9007199254740992) : double.write (.number (sg z n) (n.natAbs * 2 ^ K) (-(K : Int))) = wd z n := by
  unfold wd
  by_cases h : n = 0
  · subst h; simp [Format.write, Format.nearest, sg]
  · have h0 : n.natAbs ≠ 0 := by omega
    simp only [Format.write]
    have a := nearest_whole (sg z n) n.natAbs K h0 hn
    have b := nearest_whole (sg z n) n.natAbs 0 h0 hn
    rw [a]
    simp only [Nat.pow_zero, Nat.mul_one] at b
    exact b.symm
set_option exponentiation.threshold 2000 in
theorem wd_read (z : Bool) (n : Int) (hn : n.natAbs < 9007199254740992) : ∃ k : Nat, double.read (wd z n) = .number (sg z n) (n.natAbs * 2 ^ k) (-(k : Int)) := by
  by_cases h : n = 0
  · subst h
    refine ⟨1074, ?_⟩
    rw [show (0 : Int).natAbs = 0 from rfl, Nat.zero_mul]
    have e : wd z 0 = double.word z 0 := by simp [wd, Format.write, Format.nearest]
    rw [e]
    unfold Format.read Format.word
    rw [d_binade, d_sign, d_inf, d_least]
    cases z <;> simp [sg]
  · have h0 : n.natAbs ≠ 0 := by omega
    have := read_nearest (sg z n) n.natAbs 0 h0 hn
    simp only [Nat.pow_zero, Nat.mul_one] at this
    exact ⟨_, this⟩
theorem signed_eq (z : Bool) (n : Int) (k j : Nat) : signed (sg z n) (n.natAbs * 2 ^ k) j = n * 2 ^ (k + j) := by
  unfold signed sg
  rw [Nat.shiftLeft_eq, Nat.mul_assoc, ← Nat.pow_add]
  by_cases h : n = 0
  · subst h; simp
  · rw [if_neg h]
    by_cases h1 : n < 0
    · simp only [h1, decide_true, if_true, Int.natCast_mul, Int.natCast_pow]
      rw [show ((n.natAbs : Nat) : Int) = -n by omega, Int.neg_mul, Int.neg_neg]; rfl
    · simp only [h1, decide_false, Bool.false_eq_true, if_false, Int.natCast_mul, Int.natCast_pow]
      rw [show ((n.natAbs : Nat) : Int) = n by omega]; rfl
theorem pow_pos' (k : Nat) : (0 : Int) < 2 ^ k := Int.pow_pos (by decide)
theorem natAbs_pow (n : Int) (k : Nat) : (n * 2 ^ k).natAbs = n.natAbs * 2 ^ k := by
  rw [Int.natAbs_mul, Int.natAbs_pow]; rfl
theorem mul_pow_zero (n : Int) (k : Nat) : n * 2 ^ k = 0 ↔ n = 0 := by
  have := pow_pos' k
  constructor
  · intro h; rcases Int.mul_eq_zero.1 h with h | h
    · exact h
    · omega
  · rintro rfl; simp
theorem mul_pow_neg (n : Int) (k : Nat) : n * 2 ^ k < 0 ↔ n < 0 := by
  have h := pow_pos' k
  constructor
  · intro h1
    apply Int.not_le.1
    intro h2
    exact absurd (Int.mul_nonneg h2 (Int.le_of_lt h)) (by omega)
  · intro h1; exact Int.mul_neg_of_neg_of_pos h1 h
end Go.Proofs.Ytbgllbjkmjlipaa
