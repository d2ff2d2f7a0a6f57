/- Operations on whole floats: no program in sight. -/
import Derived.Test.YtbgllbjkmjlipaaF1
namespace Go.Proofs.Ytbgllbjkmjlipaa
open Ieee

theorem sum_datum (z z' : Bool) (n m : Int) (k j : Nat) : Datum.sum (.number (sg z n) (n.natAbs * 2 ^ k) (-(k : Int))) (.number (sg z' m) (m.natAbs * 2 ^ j) (-(j : Int))) =
    some (.number (sg (decide (n = 0) && z && z') (n + m)) ((n + m).natAbs * 2 ^ max k j) (-((max k j : Nat) : Int))) := by
  unfold Datum.sum
  have hb : min (-(k : Int)) (-(j : Int)) = -((max k j : Nat) : Int) := by omega
  have h1 : (-(k : Int) - -((max k j : Nat) : Int)).toNat = max k j - k := by omega
  have h2 : (-(j : Int) - -((max k j : Nat) : Int)).toNat = max k j - j := by omega
  simp only [hb, h1, h2, signed_eq]
  rw [show k + (max k j - k) = max k j by omega, show j + (max k j - j) = max k j by omega, ← Int.add_mul]
  generalize max k j = K
  rw [natAbs_pow]
  congr 2
  simp only [mul_pow_zero, mul_pow_neg]
  unfold sg
  by_cases h : n + m = 0
  · simp only [h, if_true]
    by_cases hn : n = 0
    · have hm : m = 0 := by omega
      simp [hn, hm]
    · have hm : m ≠ 0 := by omega
      simp only [hn, hm, if_false, decide_false, Bool.false_and]
      by_cases c : n < 0
      · have : ¬ m < 0 := by omega
        simp [this]
      · simp [c]
  · simp only [h, if_false]
theorem add_wd (z z' : Bool) (n m : Int) (hn : n.natAbs < 9007199254740992) (hm : m.natAbs < 9007199254740992) (h : (n + m).natAbs < 9007199254740992) : double.add (wd z n) (wd z' m) = some (wd (decide (n = 0) && z && z') (n + m)) := by
  obtain ⟨k, e1⟩ := wd_read z n hn
  obtain ⟨j, e2⟩ := wd_read z' m hm
  unfold Format.add
  rw [e1, e2, sum_datum, Option.map_some, wd_write _ _ _ h]
theorem opp_sg (z : Bool) (n : Int) (k : Nat) : (Datum.number (sg z n) (n.natAbs * 2 ^ k) (-(k : Int))).opposite = .number (sg (!z) (-n)) ((-n).natAbs * 2 ^ k) (-(k : Int)) := by
  unfold Datum.opposite
  simp only [Int.natAbs_neg]
  congr 1
  unfold sg
  by_cases h : n = 0
  · simp [h]
  · have h' : ¬ -n = 0 := by omega
    simp only [h, h', if_false]
    by_cases c : n < 0
    · simp [c]; omega
    · simp [c]; omega
theorem sub_wd (z z' : Bool) (n m : Int) (hn : n.natAbs < 9007199254740992) (hm : m.natAbs < 9007199254740992) (h : (n - m).natAbs < 9007199254740992) : double.sub (wd z n) (wd z' m) = some (wd (decide (n = 0) && z && !z') (n - m)) := by
  obtain ⟨k, e1⟩ := wd_read z n hn
  obtain ⟨j, e2⟩ := wd_read z' m hm
  unfold Format.sub
  rw [e1, e2, opp_sg, sum_datum, Option.map_some, wd_write _ _ _ (by omega)]
  rfl
theorem mul_wd (z z' : Bool) (n m : Int) (hn : n.natAbs < 9007199254740992) (hm : m.natAbs < 9007199254740992) (h : (n * m).natAbs < 9007199254740992) : double.mul (wd z n) (wd z' m) = some (wd (sg z n ^^ sg z' m) (n * m)) := by
  obtain ⟨k, e1⟩ := wd_read z n hn
  obtain ⟨j, e2⟩ := wd_read z' m hm
  unfold Format.mul Datum.product
  rw [e1, e2]
  simp only [Option.map_some]
  rw [show n.natAbs * 2 ^ k * (m.natAbs * 2 ^ j) = (n * m).natAbs * 2 ^ (k + j) by rw [Int.natAbs_mul, Nat.pow_add]; simp only [Nat.mul_assoc, Nat.mul_left_comm],
    show -(k : Int) + -(j : Int) = -((k + j : Nat) : Int) by omega]
  rw [← wd_write _ _ (k + j) h]
  congr 3
  unfold sg
  by_cases c1 : n = 0
  · subst c1; simp
  · by_cases c2 : m = 0
    · subst c2; simp
    · have c3 : n * m ≠ 0 := Int.mul_ne_zero c1 c2
      simp only [c1, c2, c3, if_false]
      by_cases d1 : n < 0 <;> by_cases d2 : m < 0
      · have : ¬ n * m < 0 := by have := Int.mul_pos_of_neg_of_neg d1 d2; omega
        simp [d1, d2, this]
      · have : n * m < 0 := Int.mul_neg_of_neg_of_pos d1 (by omega)
        simp [d1, d2, this]
      · have : n * m < 0 := Int.mul_neg_of_pos_of_neg (by omega) d2
        simp [d1, d2, this]
      · have : ¬ n * m < 0 := by have := Int.mul_pos (show 0 < n by omega) (show 0 < m by omega); omega
        simp [d1, d2, this]
theorem cmp_pow (n m : Int) (K : Nat) : compare (n * 2 ^ K) (m * 2 ^ K) = compare n m := by
  have h := pow_pos' K
  simp only [compare, compareOfLessAndEq]
  have e1 : n * 2 ^ K < m * 2 ^ K ↔ n < m := Int.mul_lt_mul_right h
  have e2 : n * 2 ^ K = m * 2 ^ K ↔ n = m := ⟨fun e => Int.eq_of_mul_eq_mul_right (by omega) e, fun e => by rw [e]⟩
  simp only [e1, e2]
theorem order_wd (z z' : Bool) (n m : Int) (hn : n.natAbs < 9007199254740992) (hm : m.natAbs < 9007199254740992) : double.order (wd z n) (wd z' m) = some (compare n m) := by
  obtain ⟨k, e1⟩ := wd_read z n hn
  obtain ⟨j, e2⟩ := wd_read z' m hm
  unfold Format.order Datum.order
  rw [e1, e2]
  have hb : min (-(k : Int)) (-(j : Int)) = -((max k j : Nat) : Int) := by omega
  have h1 : (-(k : Int) - -((max k j : Nat) : Int)).toNat = max k j - k := by omega
  have h2 : (-(j : Int) - -((max k j : Nat) : Int)).toNat = max k j - j := by omega
  simp only [hb, h1, h2, signed_eq]
  rw [show k + (max k j - k) = max k j by omega, show j + (max k j - j) = max k j by omega, cmp_pow]
theorem cmp_lt (n m : Int) : (some (compare n m) == some Ordering.lt) = decide (n < m) := by
  by_cases h : n < m
  · simp [compare, compareOfLessAndEq, h]
  · by_cases h2 : n = m
    · simp [compare, compareOfLessAndEq, h2]
    · simp [compare, compareOfLessAndEq, h, h2]
theorem cmp_eq (n m : Int) : (some (compare n m) == some Ordering.eq) = decide (n = m) := by
  by_cases h : n < m
  · have : n ≠ m := by omega
    simp [compare, compareOfLessAndEq, h, this]
  · by_cases h2 : n = m
    · simp [compare, compareOfLessAndEq, h2]
    · simp [compare, compareOfLessAndEq, h, h2]
theorem cmp_gt (n m : Int) : (some (compare n m) == some Ordering.gt) = decide (m < n) := by
  by_cases h : n < m
  · have : ¬ m < n := by omega
    simp [compare, compareOfLessAndEq, h, this]
  · by_cases h2 : n = m
    · simp [compare, compareOfLessAndEq, h2]
    · have : m < n := by omega
      simp [compare, compareOfLessAndEq, h, h2, this]
theorem cut_zero (neg : Bool) (n k : Nat) : Toward.zero.cut neg (n * 2 ^ k) k = n := by
  by_cases h : n = 0
  · subst h; unfold Toward.cut; simp
  · unfold Toward.cut
    have h1 := log2_mul_pow k h
    have h2 : min k ((n * 2 ^ k).log2 + 2) = k := by omega
    simp only [h2, Nat.one_shiftLeft, Nat.mul_div_cancel _ (Nat.two_pow_pos k)]
    simp
theorem integral_wd (z : Bool) (n : Int) (hn : n.natAbs < 9007199254740992) : (double.read (wd z n)).integral .zero = .number (sg z n) n.natAbs 0 := by
  obtain ⟨k, e1⟩ := wd_read z n hn
  rw [e1]
  unfold Datum.integral
  have h1 : (-(k : Int)).toNat = 0 := by omega
  have h2 : (- -(k : Int)).toNat = k := by omega
  simp only [h1, h2, Nat.shiftLeft_zero, cut_zero]
theorem trunc_wd (z : Bool) (n : Int) (hn : n.natAbs < 9007199254740992) : double.write ((double.read (wd z n)).integral .zero) = wd z n := by
  rw [integral_wd z n hn]
  have := wd_write z n 0 hn
  simpa using this
theorem toInt_wd (z : Bool) (n : Int) (hn : n.natAbs < 9007199254740992) : (double.read (wd z n)).toInt .zero = some n := by
  unfold Datum.toInt
  rw [integral_wd z n hn]
  have := signed_eq z n 0 0
  simp only [Nat.pow_zero, Nat.mul_one, Nat.add_zero, Int.pow_zero, Int.mul_one] at this
  simp only [this]
theorem ofInt_wd (n : Int) : floatOfInt .f64 n = wd false n := by
  unfold floatOfInt FloatKind.nearest FloatKind.encode FloatKind.format wd
  by_cases h : n = 0
  · subst h; rfl
  · rw [if_neg h]
theorem floatToInt_wd (z : Bool) (n : Int) (hn : n.natAbs < 9007199254740992) : floatToIntVal .f64 (wd z n) .i64 = some n := by
  unfold floatToIntVal FloatKind.decode FloatKind.format
  rw [toInt_wd z n hn]
  have h1 : IntKind.i64.min = -9223372036854775808 := by decide
  have h2 : IntKind.i64.max = 9223372036854775807 := by decide
  simp only [h1, h2]
  rw [if_pos (by omega)]
end Go.Proofs.Ytbgllbjkmjlipaa
