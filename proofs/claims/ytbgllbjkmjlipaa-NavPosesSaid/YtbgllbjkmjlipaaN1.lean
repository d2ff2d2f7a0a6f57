/- Plain words on 64 bits: no program in sight. -/
import Derived.Laws.Bits64
import Derived.Laws.BitsAllLaws
import Derived.IntWalk
namespace Go.Proofs.Ytbgllbjkmjlipaa

/-- The word of 64 bits. -/
def wordOf (f : Nat → Bool) : Nat → Nat
  | 0 => 0
  | n + 1 => wordOf f n + (f n).toNat * 2 ^ n
theorem wordOf_lt (f : Nat → Bool) : ∀ n, wordOf f n < 2 ^ n
  | 0 => by simp [wordOf]
  | n + 1 => by
    have h := wordOf_lt f n
    have h2 : (f n).toNat ≤ 1 := by cases f n <;> simp
    have h3 : (f n).toNat * 2 ^ n ≤ 1 * 2 ^ n := Nat.mul_le_mul_right _ h2
    rw [wordOf, Nat.pow_succ]
    omega
theorem testBit_wordOf (f : Nat → Bool) (k : Nat) : ∀ n, (wordOf f n).testBit k = (decide (k < n) && f k)
  | 0 => by simp [wordOf]
  | n + 1 => by
    have ih := testBit_wordOf f k n
    have h := wordOf_lt f n
    rw [wordOf, Nat.add_comm, Nat.mul_comm, Nat.testBit_two_pow_mul_add _ h]
    by_cases c : k < n
    · rw [if_pos c, ih]
      simp [c, Nat.lt_succ_of_lt c]
    · rw [if_neg c]
      by_cases c2 : k = n
      · subst c2
        cases f k <;> simp
      · have : ¬ k < n + 1 := by omega
        simp only [this, decide_false, Bool.false_and]
        have c3 : k - n ≠ 0 := by omega
        cases f n
        · simp
        · obtain ⟨m, hm⟩ : ∃ m, k - n = m + 1 := ⟨k - n - 1, by omega⟩
          rw [hm]; simp [Nat.testBit_succ]
theorem wordOf_self (w n : Nat) (h : w < 2 ^ n) : wordOf w.testBit n = w := by
  apply Nat.eq_of_testBit_eq
  intro i
  rw [testBit_wordOf]
  by_cases c : i < n
  · simp [c]
  · simp only [c, decide_false, Bool.false_and]
    exact (Nat.testBit_lt_two_pow (Nat.lt_of_lt_of_le h (Nat.pow_le_pow_right (by omega) (by omega)))).symm
theorem wordOf_congr {f g : Nat → Bool} {n : Nat} (h : ∀ k, k < n → f k = g k) : wordOf f n = wordOf g n := by
  apply Nat.eq_of_testBit_eq
  intro i
  rw [testBit_wordOf, testBit_wordOf]
  by_cases c : i < n
  · rw [h i c]
  · simp [c]

theorem wordOf_ext {x : Nat} {f : Nat → Bool} (hx : x < 2 ^ 64) (h : ∀ i, i < 64 → x.testBit i = f i) : x = wordOf f 64 := by
  apply Nat.eq_of_testBit_eq
  intro i
  rw [testBit_wordOf]
  by_cases c : i < 64
  · simp [c, h i c]
  · simp only [c, decide_false, Bool.false_and]
    exact Nat.testBit_lt_two_pow (Nat.lt_of_lt_of_le hx (Nat.pow_le_pow_right (by omega) (by omega)))

def maxW (l : Nat) : Nat := wordOf (fun k => decide (k < l)) 64
def getW (a l w : Nat) : Nat := wordOf (fun k => decide (k < l) && w.testBit (a + k)) 64
def setW (a l w x : Nat) : Nat := wordOf (fun k => if a ≤ k ∧ k < a + l then x.testBit (k - a) else w.testBit k) 64
def sgnW (a l w : Nat) : Nat := wordOf (fun k => w.testBit (a + min k (l - 1))) 64

theorem max_eq (l : Nat) (h : l ≤ 64) : 18446744073709551615 / 2 ^ (64 - l) = maxW l := by
  apply wordOf_ext
  · exact Nat.lt_of_le_of_lt (Nat.div_le_self _ _) (by decide)
  · intro i hi
    rw [show 18446744073709551615 = 2 ^ 64 - 1 from rfl, Nat.testBit_div_two_pow, Nat.testBit_two_pow_sub_one]
    by_cases c : i < l
    · simp only [c, decide_true]; apply decide_eq_true; omega
    · simp only [c, decide_false]; apply decide_eq_false; omega
theorem maxW_bit (l i : Nat) (h : l ≤ 64) : (maxW l).testBit i = decide (i < l) := by
  unfold maxW; rw [testBit_wordOf]
  by_cases c : i < l
  · have : i < 64 := by omega
    simp [c, this]
  · simp [c]
theorem maxW_lt (l : Nat) : maxW l < 18446744073709551616 := wordOf_lt _ 64
theorem getW_lt (a l w : Nat) : getW a l w < 18446744073709551616 := wordOf_lt _ 64
theorem setW_lt (a l w x : Nat) : setW a l w x < 18446744073709551616 := wordOf_lt _ 64
theorem sgnW_lt (a l w : Nat) : sgnW a l w < 18446744073709551616 := wordOf_lt _ 64
theorem get_eq (a l w : Nat) (h : l ≤ 64) : w / 2 ^ a &&& maxW l = getW a l w := by
  apply wordOf_ext
  · exact Nat.and_lt_two_pow _ (maxW_lt l)
  · intro i hi
    rw [Nat.testBit_and, maxW_bit l i h, Nat.testBit_div_two_pow, Bool.and_comm, Nat.add_comm]
theorem set_eq (a l w x : Nat) (hw : w < 18446744073709551616) (ha : a + l ≤ 64) :
    (w &&& (18446744073709551615 - maxW l * 2 ^ a % 18446744073709551616)) ||| ((x &&& maxW l) * 2 ^ a % 18446744073709551616) = setW a l w x := by
  have hm : maxW l * 2 ^ a % 18446744073709551616 < 18446744073709551616 := Nat.mod_lt _ (by decide)
  apply wordOf_ext
  · exact Nat.or_lt_two_pow (Nat.lt_of_le_of_lt Nat.and_le_left hw) (Nat.mod_lt _ (by decide))
  · intro i hi
    have e1 : (18446744073709551615 - maxW l * 2 ^ a % 18446744073709551616).testBit i = !(maxW l * 2 ^ a % 18446744073709551616).testBit i := by
      have := Nat.testBit_two_pow_sub_succ (n := 64) (x := maxW l * 2 ^ a % 18446744073709551616) hm i
      rw [show (18446744073709551615 - maxW l * 2 ^ a % 18446744073709551616) = 2 ^ 64 - (maxW l * 2 ^ a % 18446744073709551616 + 1) by omega, this]
      simp [hi]
    rw [Nat.testBit_or, Nat.testBit_and, e1, show 18446744073709551616 = 2 ^ 64 from rfl, Nat.testBit_mod_two_pow, Nat.testBit_mod_two_pow, Nat.mul_comm _ (2 ^ a), Nat.mul_comm _ (2 ^ a),
      Nat.testBit_two_pow_mul, Nat.testBit_two_pow_mul, Nat.testBit_and, maxW_bit l _ (by omega)]
    by_cases c : a ≤ i
    · by_cases c2 : i < a + l
      · have c3 : i - a < l := by omega
        simp [c, c2, c3, hi]
      · have c3 : ¬ i - a < l := by omega
        simp [c, c2, c3]
    · simp [c]

theorem bmod_wrap (n : Int) : n.bmod (2 ^ 64) = (n + 9223372036854775808) % 18446744073709551616 - 9223372036854775808 := by
  rw [Int.bmod_def]
  simp only [show ((2 ^ 64 : Nat) : Int) = 18446744073709551616 from rfl]
  split <;> omega
theorem toInt_wrap (x : Nat) (hx : x < 18446744073709551616) : (BitVec.ofNat 64 x).toInt = ((x : Int) + 9223372036854775808) % 18446744073709551616 - 9223372036854775808 := by
  rw [BitVec.toInt_eq_toNat_bmod, bmod_wrap, BitVec.toNat_ofNat, Nat.mod_eq_of_lt hx]

/-- The signed number of a word. -/
def i64of (x : Nat) : Int := ((x : Int) + 9223372036854775808) % 18446744073709551616 - 9223372036854775808
theorem i64of_bd (x : Nat) : -9223372036854775808 ≤ i64of x ∧ i64of x ≤ 9223372036854775807 := by unfold i64of; omega
theorem i64of_inj {x y : Nat} (hx : x < 18446744073709551616) (hy : y < 18446744073709551616) (h : i64of x = i64of y) : x = y := by unfold i64of at h; omega

theorem sgn_eq (a l w : Nat) (ha : a + l ≤ 64) (hl : 1 ≤ l) :
    i64of (w * 2 ^ (64 - a - l) % 18446744073709551616) / 2 ^ (64 - l) = i64of (sgnW a l w) := by
  have h1 : w * 2 ^ (64 - a - l) % 18446744073709551616 < 18446744073709551616 := Nat.mod_lt _ (by decide)
  unfold i64of
  rw [← toInt_wrap _ h1, ← toInt_wrap _ (sgnW_lt a l w)]
  have hp : ((2 : Int) ^ (64 - l)) = ((2 ^ (64 - l) : Nat) : Int) := by simp
  rw [hp, ← Int.shiftRight_eq_div_pow, ← BitVec.toInt_sshiftRight]
  congr 1
  apply BitVec.eq_of_getLsbD_eq
  intro i hi
  have hg : ∀ j, (BitVec.ofNat 64 (w * 2 ^ (64 - a - l) % 18446744073709551616)).getLsbD j = (decide (j < 64) && (decide (64 - a - l ≤ j) && w.testBit (j - (64 - a - l)))) := by
    intro j
    rw [BitVec.getLsbD_ofNat, show 18446744073709551616 = 2 ^ 64 from rfl, Nat.testBit_mod_two_pow, Nat.mul_comm, Nat.testBit_two_pow_mul]
    cases decide (j < 64) <;> simp
  rw [BitVec.getLsbD_sshiftRight, BitVec.msb_eq_getLsbD_last, hg, hg, BitVec.getLsbD_ofNat, sgnW, testBit_wordOf]
  have e1 : ¬ 64 ≤ i := by omega
  simp only [hi, e1, decide_true, decide_false, Bool.true_and, Bool.not_false]
  by_cases c : 64 - l + i < 64
  · rw [if_pos c]
    have e2 : 64 - a - l ≤ 64 - l + i := by omega
    have e3 : 64 - l + i - (64 - a - l) = a + min i (l - 1) := by omega
    rw [e3]
    simp [c, e2]
  · rw [if_neg c]
    have e2 : 64 - a - l ≤ 63 := by omega
    have e3 : 63 - (64 - a - l) = a + min i (l - 1) := by omega
    simp only [Nat.reduceSub, e3]
    simp [e2]

theorem cast_pow (n : Nat) : ((2 : Int) ^ n) = ((2 ^ n : Nat) : Int) := by simp
theorem max_int (l : Nat) (h : l ≤ 64) : (18446744073709551615 : Int) / 2 ^ (64 - l) = ((maxW l : Nat) : Int) := by
  rw [← max_eq l h, cast_pow]; rfl

theorem sgn_int (a l x : Nat) (ha : a + l ≤ 64) (hl : 1 ≤ l) : IntKind.i64.wrap (IntKind.u64.wrap ((x : Int) * 2 ^ (64 - a - l))) / 2 ^ (64 - l) = i64of (sgnW a l x) := by
  rw [← sgn_eq a l x ha hl, IntKind.wrap_i64, IntKind.wrap_u64]
  unfold i64of
  have e : ((x * 2 ^ (64 - a - l) % 18446744073709551616 : Nat) : Int) = (x : Int) * ((2 ^ (64 - a - l) : Nat) : Int) % 18446744073709551616 := by
    rw [Int.natCast_emod, Int.natCast_mul]; rfl
  rw [cast_pow (64 - a - l), e]

theorem mulpow_int (m a : Nat) : IntKind.u64.wrap ((m : Int) * 2 ^ a) = ((m * 2 ^ a % 18446744073709551616 : Nat) : Int) := by
  rw [IntKind.wrap_u64, cast_pow, Int.natCast_emod, Int.natCast_mul]; rfl
theorem set_int (a l x y : Nat) (hx : x < 18446744073709551616) (hy : y < 18446744073709551616) (h : a + l ≤ 64) :
    bits .or .u64 (bits .andNot .u64 (x : Int) (IntKind.u64.wrap ((maxW l : Int) * 2 ^ a))) (IntKind.u64.wrap (bits .and .u64 (y : Int) (maxW l) * 2 ^ a)) = ((setW a l x y : Nat) : Int) := by
  have h1 : maxW l * 2 ^ a % 18446744073709551616 < 18446744073709551616 := Nat.mod_lt _ (by omega)
  have h2 : (y &&& maxW l) * 2 ^ a % 18446744073709551616 < 18446744073709551616 := Nat.mod_lt _ (by omega)
  have h3 : x &&& (18446744073709551615 - maxW l * 2 ^ a % 18446744073709551616) < 18446744073709551616 := Nat.lt_of_le_of_lt Nat.and_le_left hx
  rw [mulpow_int, u64_and_nat _ _ hy (maxW_lt l), mulpow_int, u64_andNot_nat _ _ hx h1, u64_or_nat _ _ h3 h2, set_eq a l x y hx h]
/-- The word of a signed number. -/
def u64of (z : Int) : Nat := (z % 18446744073709551616).toNat
theorem u64of_lt (z : Int) : u64of z < 18446744073709551616 := by unfold u64of; omega
theorem u64of_int (z : Int) : IntKind.u64.wrap z = ((u64of z : Nat) : Int) := by unfold u64of; rw [IntKind.wrap_u64]; omega
theorem i64of_u64of (z : Int) (h : -9223372036854775808 ≤ z ∧ z ≤ 9223372036854775807) : i64of (u64of z) = z := by unfold i64of u64of; omega
theorem u64of_i64of (x : Nat) (h : x < 18446744073709551616) : u64of (i64of x) = x := by unfold i64of u64of; omega
theorem i64of_int (x : Nat) : IntKind.i64.wrap (x : Int) = i64of x := by rw [IntKind.wrap_i64]; rfl
end Go.Proofs.Ytbgllbjkmjlipaa
