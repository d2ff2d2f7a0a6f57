/- Complex whole numbers: sums, products, the opposite: no program in sight. -/
import Derived.Test.YtbgllbjkmjlipaaF4
namespace Go.Proofs.Ytbgllbjkmjlipaa
open Ieee
theorem cSum_add (z z' y y' : Bool) (a b c d : Int) (ha : a.natAbs < 4194304) (hb : b.natAbs < 4194304) (hc : c.natAbs < 4194304) (hd : d.natAbs < 4194304) :
    ∃ s t, cSumBits .add .f64 (wd z a) (wd z' b) (wd y c) (wd y' d) = some (wd s (a + c), wd t (b + d)) := by
  refine ⟨decide (a = 0) && z && y, decide (b = 0) && z' && y', ?_⟩
  unfold cSumBits floatBits FloatKind.format
  simp only [add_wd _ _ _ _ (show a.natAbs < 9007199254740992 by omega) (show c.natAbs < 9007199254740992 by omega) (by omega), add_wd _ _ _ _ (show b.natAbs < 9007199254740992 by omega) (show d.natAbs < 9007199254740992 by omega) (by omega), Option.bind_some]
theorem cSum_sub (z z' y y' : Bool) (a b c d : Int) (ha : a.natAbs < 4194304) (hb : b.natAbs < 4194304) (hc : c.natAbs < 4194304) (hd : d.natAbs < 4194304) :
    ∃ s t, cSumBits .sub .f64 (wd z a) (wd z' b) (wd y c) (wd y' d) = some (wd s (a - c), wd t (b - d)) := by
  refine ⟨decide (a = 0) && z && !y, decide (b = 0) && z' && !y', ?_⟩
  unfold cSumBits floatBits FloatKind.format
  simp only [sub_wd _ _ _ _ (show a.natAbs < 9007199254740992 by omega) (show c.natAbs < 9007199254740992 by omega) (by omega), sub_wd _ _ _ _ (show b.natAbs < 9007199254740992 by omega) (show d.natAbs < 9007199254740992 by omega) (by omega), Option.bind_some]
theorem mul_bd {a c : Int} (ha : a.natAbs < 4194304) (hc : c.natAbs < 4194304) : (a * c).natAbs < 17592186044416 := by
  rw [Int.natAbs_mul]
  have := Nat.mul_le_mul (show a.natAbs ≤ 4194303 by omega) (show c.natAbs ≤ 4194303 by omega)
  omega
theorem cMul_wd (z z' y y' : Bool) (a b c d : Int) (ha : a.natAbs < 4194304) (hb : b.natAbs < 4194304) (hc : c.natAbs < 4194304) (hd : d.natAbs < 4194304) :
    ∃ s t, cMulBits (wd z a) (wd z' b) (wd y c) (wd y' d) = some (wd s (a * c - b * d), wd t (a * d + b * c)) := by
  have h1 := mul_bd ha hc
  have h2 := mul_bd hb hd
  have h3 := mul_bd ha hd
  have h4 := mul_bd hb hc
  have e1 := mul_wd z y a c (by omega) (by omega) (by omega)
  have e2 := mul_wd z' y' b d (by omega) (by omega) (by omega)
  have e3 := mul_wd z y' a d (by omega) (by omega) (by omega)
  have e4 := mul_wd z' y b c (by omega) (by omega) (by omega)
  have e5 := sub_wd (sg z a ^^ sg y c) (sg z' b ^^ sg y' d) (a * c) (b * d) (by omega) (by omega) (by omega)
  have e6 := add_wd (sg z a ^^ sg y' d) (sg z' b ^^ sg y c) (a * d) (b * c) (by omega) (by omega) (by omega)
  refine ⟨decide (a * c = 0) && (sg z a ^^ sg y c) && !(sg z' b ^^ sg y' d), decide (a * d = 0) && (sg z a ^^ sg y' d) && (sg z' b ^^ sg y c), ?_⟩
  unfold cMulBits floatBits FloatKind.format
  simp only [e1, e2, e3, e4, e5, e6, Option.bind_some]
theorem neg_word (neg : Bool) (r : Nat) (hr : r < 9223372036854775808) : double.word neg r ^^^ 9223372036854775808 = double.word (!neg) r := by
  have hx : r ^^^ 9223372036854775808 = 9223372036854775808 + r := by
    have h2 : r ^^^ 2 ^ 63 = 2 ^ 63 + r := by
      apply Nat.eq_of_testBit_eq
      intro i
      rw [Nat.testBit_xor]
      have hm := Nat.testBit_two_pow_mul_add 1 (i := 63) (b := r) (by omega) i
      rw [Nat.mul_one] at hm
      rw [hm]
      by_cases c : i < 63
      · rw [if_pos c, Nat.testBit_two_pow_of_ne (by omega)]; simp
      · rw [if_neg c, Nat.testBit_lt_two_pow (Nat.lt_of_lt_of_le hr (show 2 ^ 63 ≤ 2 ^ i from Nat.pow_le_pow_right (by omega) (by omega)))]
        by_cases c2 : i = 63
        · subst c2; decide
        · rw [Nat.testBit_two_pow_of_ne (by omega)]
          obtain ⟨m, hm⟩ : ∃ m, i - 63 = m + 1 := ⟨i - 63 - 1, by omega⟩
          rw [hm]; simp [Nat.testBit_succ]
    exact h2
  unfold Format.word
  rw [d_sign]
  cases neg
  · simp only [Bool.false_eq_true, if_false, Bool.not_false, if_true]; exact hx
  · simp only [if_true, Bool.not_true, Bool.false_eq_true, if_false]
    rw [← hx, Nat.xor_assoc, Nat.xor_self, Nat.xor_zero]
theorem neg_wd (z : Bool) (n : Int) (hn : n.natAbs < 9007199254740992) : Op.negFloat .f64 (wd z n) = wd (!z) (-n) := by
  show wd z n ^^^ 9223372036854775808 = wd (!z) (-n)
  by_cases h : n = 0
  · subst h; cases z <;> decide
  · have a := nearest_whole (sg z n) n.natAbs 0 (by omega) hn
    have b := nearest_whole (sg (!z) (-n)) (-n).natAbs 0 (by omega) (by omega)
    simp only [Nat.pow_zero, Nat.mul_one, Int.natAbs_neg] at a b
    have hb := norm_bd (N := n.natAbs) (by omega) hn
    have hl : n.natAbs.log2 < 53 := (Nat.log2_lt (by omega)).2 hn
    have ea : wd z n = double.nearest (sg z n) n.natAbs (-((0 : Nat) : Int)) := rfl
    have eb : wd (!z) (-n) = double.nearest (sg (!z) (-n)) n.natAbs (-((0 : Nat) : Int)) := by unfold wd; rw [Int.natAbs_neg]; rfl
    rw [ea, eb, a, b, neg_word _ _ (by omega)]
    congr 1
    unfold sg
    have h' : ¬ -n = 0 := by omega
    simp only [h, h', if_false]
    by_cases c : n < 0
    · simp [c]; omega
    · simp [c]; omega
end Go.Proofs.Ytbgllbjkmjlipaa
