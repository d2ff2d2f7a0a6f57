/- Plain words on fields: no program in sight. What is put is got; fields apart; rows joined and split. -/
import Derived.Test.YtlchbjocemegbaaP
namespace Go.Proofs.Ytlchbjocemegbaa

theorem testBit_64 {x i : Nat} (hx : x < 18446744073709551616) (hi : 64 ≤ i) : x.testBit i = false := Nat.testBit_lt_two_pow (Nat.lt_of_lt_of_le hx (show 2 ^ 64 ≤ 2 ^ i from Nat.pow_le_pow_right (by omega) hi))
theorem eq_of_bits {x y : Nat} (hx : x < 18446744073709551616) (hy : y < 18446744073709551616) (h : ∀ i, i < 64 → x.testBit i = y.testBit i) : x = y := by
  apply Nat.eq_of_testBit_eq
  intro i
  by_cases c : i < 64
  · exact h i c
  · rw [testBit_64 hx (by omega), testBit_64 hy (by omega)]
theorem setW_bit (a l w x i : Nat) (hi : i < 64) : (setW a l w x).testBit i = if a ≤ i ∧ i < a + l then x.testBit (i - a) else w.testBit i := by
  unfold setW; rw [testBit_wordOf]; simp [hi]
theorem getW_bit (a l w i : Nat) (hi : i < 64) : (getW a l w).testBit i = (decide (i < l) && w.testBit (a + i)) := by
  unfold getW; rw [testBit_wordOf]; simp [hi]
theorem le_max_bit {l x i : Nat} (hl : l ≤ 64) (h : x ≤ maxW l) (hi : l ≤ i) : x.testBit i = false := by
  have hm : maxW l < 2 ^ l := by
    rw [← max_eq l hl, show 18446744073709551615 = 2 ^ 64 - 1 from rfl]
    apply Nat.div_lt_of_lt_mul
    rw [← Nat.pow_add, show 64 - l + l = 64 by omega]; decide
  exact Nat.testBit_lt_two_pow (Nat.lt_of_lt_of_le (by omega) (Nat.pow_le_pow_right (by omega) hi))
theorem max_le {l x : Nat} (hl : l ≤ 64) (hx : ∀ i, l ≤ i → x.testBit i = false) : x ≤ maxW l := by
  have h1 : x &&& maxW l = x := by
    apply Nat.eq_of_testBit_eq
    intro i
    rw [Nat.testBit_and, maxW_bit l i hl]
    by_cases c : i < l
    · simp [c]
    · simp [hx i (by omega)]
  rw [← h1]; exact Nat.and_le_right
theorem get_le (a l w : Nat) (hl : l ≤ 64) : getW a l w ≤ maxW l := by
  apply max_le hl
  intro i hi
  by_cases c : i < 64
  · rw [getW_bit _ _ _ _ c]
    have : ¬ i < l := by omega
    simp [this]
  · exact testBit_64 (getW_lt _ _ _) (by omega)
theorem get_set {a l w x : Nat} (h4 : a + l ≤ 64) (hx : x ≤ maxW l) : getW a l (setW a l w x) = x := by
  apply eq_of_bits (getW_lt _ _ _) (Nat.lt_of_le_of_lt hx (maxW_lt l))
  intro i hi
  rw [getW_bit _ _ _ _ hi]
  by_cases c : i < l
  · rw [setW_bit _ _ _ _ _ (by omega), if_pos (by omega)]
    simp [c]
  · rw [le_max_bit (by omega) hx (by omega)]; simp [c]
theorem set_get {a l w : Nat} (h4 : a + l ≤ 64) (hw : w < 18446744073709551616) : setW a l w (getW a l w) = w := by
  apply eq_of_bits (setW_lt _ _ _ _) hw
  intro i hi
  rw [setW_bit _ _ _ _ _ hi]
  by_cases c : a ≤ i ∧ i < a + l
  · rw [if_pos c, getW_bit _ _ _ _ (by omega), show a + (i - a) = i by omega]
    have : i - a < l := by omega
    simp [this]
  · rw [if_neg c]
theorem set_sgn {a l w : Nat} (h4 : a + l ≤ 64) (hw : w < 18446744073709551616) : setW a l w (sgnW a l w) = w := by
  apply eq_of_bits (setW_lt _ _ _ _) hw
  intro i hi
  rw [setW_bit _ _ _ _ _ hi]
  by_cases c : a ≤ i ∧ i < a + l
  · rw [if_pos c]; unfold sgnW; rw [testBit_wordOf]
    have e1 : i - a < 64 := by omega
    have e2 : a + min (i - a) (l - 1) = i := by omega
    simp [e1, e2]
  · rw [if_neg c]
/-- No other bit is turned. -/
theorem set_only {a l w x : Nat} (h4 : a + l ≤ 64) : (setW a l w x ^^^ w) &&& (18446744073709551615 - maxW l * 2 ^ a % 18446744073709551616) = 0 := by
  have hm : maxW l * 2 ^ a % 18446744073709551616 < 18446744073709551616 := Nat.mod_lt _ (by decide)
  apply eq_of_bits (Nat.lt_of_le_of_lt Nat.and_le_right (by omega)) (by omega)
  intro i hi
  have e1 : (18446744073709551615 - maxW l * 2 ^ a % 18446744073709551616).testBit i = !(maxW l * 2 ^ a % 18446744073709551616).testBit i := by
    have := Nat.testBit_two_pow_sub_succ (n := 64) (x := maxW l * 2 ^ a % 18446744073709551616) hm i
    rw [show (18446744073709551615 - maxW l * 2 ^ a % 18446744073709551616) = 2 ^ 64 - (maxW l * 2 ^ a % 18446744073709551616 + 1) by omega, this]
    simp [hi]
  rw [Nat.testBit_and, Nat.testBit_xor, e1, show 18446744073709551616 = 2 ^ 64 from rfl, Nat.testBit_mod_two_pow, Nat.mul_comm _ (2 ^ a), Nat.testBit_two_pow_mul, maxW_bit l _ (by omega), setW_bit _ _ _ _ _ hi]
  by_cases c : a ≤ i ∧ i < a + l
  · have c3 : i - a < l := by omega
    simp [c.1, hi, c3]
  · rw [if_neg c]; simp
theorem set_only_int {a l w x : Nat} (h4 : a + l ≤ 64) (hw : w < 18446744073709551616) :
    (bits .andNot .u64 (bits .xor .u64 (setW a l w x : Nat) (w : Nat)) (IntKind.u64.wrap ((maxW l : Nat) * 2 ^ a)) != 0) = false := by
  have h1 : maxW l * 2 ^ a % 18446744073709551616 < 18446744073709551616 := Nat.mod_lt _ (by omega)
  have h2 : setW a l w x ^^^ w < 18446744073709551616 := Nat.xor_lt_two_pow (n := 64) (setW_lt _ _ _ _) hw
  rw [u64_xor_nat _ _ (setW_lt _ _ _ _) hw, mulpow_int, u64_andNot_nat _ _ h2 h1, set_only h4]
  rfl

/-! ### Two fields without a bit in common -/
theorem set_two {a l b m w s t : Nat} (h : a + l ≤ b ∨ b + m ≤ a) (_ : a + l ≤ 64) (_ : b + m ≤ 64) : setW b m (setW a l w s) t = setW a l (setW b m w t) s := by
  apply eq_of_bits (setW_lt _ _ _ _) (setW_lt _ _ _ _)
  intro i hi
  rw [setW_bit _ _ _ _ _ hi, setW_bit _ _ _ _ _ hi, setW_bit _ _ _ _ _ hi, setW_bit _ _ _ _ _ hi]
  by_cases c : b ≤ i ∧ i < b + m
  · have c2 : ¬ (a ≤ i ∧ i < a + l) := by omega
    simp only [c, c2, if_true, if_false, and_self]
  · simp only [c, if_false]
theorem get_other {a l b m w t : Nat} (h : a + l ≤ b ∨ b + m ≤ a) (h4 : a + l ≤ 64) : getW a l (setW b m w t) = getW a l w := by
  apply eq_of_bits (getW_lt _ _ _) (getW_lt _ _ _)
  intro i hi
  rw [getW_bit _ _ _ _ hi, getW_bit _ _ _ _ hi]
  by_cases c : i < l
  · rw [setW_bit _ _ _ _ _ (by omega), if_neg (by omega)]
  · simp [c]
end Go.Proofs.Ytlchbjocemegbaa
