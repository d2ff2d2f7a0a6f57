/- Which floats are right: whole, and below 2^20. Halves, great ones, and what is no number: no program in sight. -/
import Derived.Test.YtbgllbjkmjlipaaF2
namespace Go.Proofs.Ytbgllbjkmjlipaa
open Ieee

/-- The test of gauss.whole. -/
def wholeB (x : Nat) : Bool := (double.order x (double.write ((double.read x).integral .zero)) == some .eq) && (double.order x 13920626448202203136 == some .gt) && (double.order x 4697254411347427328 == some .lt)
theorem lit_hi : 4697254411347427328 = wd false 1048576 := by decide
theorem lit_lo : 13920626448202203136 = wd false (-1048576) := by decide
theorem whole_wd (z : Bool) (n : Int) (hn : n.natAbs < 9007199254740992) : wholeB (wd z n) = decide (-1048576 < n ∧ n < 1048576) := by
  unfold wholeB
  rw [trunc_wd z n hn, lit_hi, lit_lo, order_wd z z n n hn hn, order_wd z false n 1048576 hn (by decide), order_wd z false n (-1048576) hn (by decide), cmp_eq, cmp_gt, cmp_lt]
  simp

/-- Greater than what may be, or below it, or none. -/
def FarAt (E : Nat) (x : Nat) : Prop := (∃ neg m e, double.read x = .number neg m e ∧ 4503599627370496 ≤ m ∧ (E : Int) - 52 ≤ e) ∨ ∃ neg, double.read x = .infinity neg
abbrev Far (x : Nat) : Prop := FarAt 20 x
def NaN (x : Nat) : Prop := ∃ neg t, double.read x = .nan neg t
theorem read_lo : double.read 13920626448202203136 = .number true 4503599627370496 (-32) := by decide
theorem read_hi : double.read 4697254411347427328 = .number false 4503599627370496 (-32) := by decide
theorem cmp_not_gt {n m : Int} (h : n ≤ m) : (some (compare n m) == some Ordering.gt) = false := by rw [cmp_gt]; simp; omega
theorem cmp_not_lt {n m : Int} (h : m ≤ n) : (some (compare n m) == some Ordering.lt) = false := by rw [cmp_lt]; simp; omega
theorem far_shift {m : Nat} {e : Int} (hm : 4503599627370496 ≤ m) : 4503599627370496 ≤ m <<< (e + 32).toNat := by
  rw [Nat.shiftLeft_eq]
  exact Nat.le_trans hm (Nat.le_mul_of_pos_right _ (Nat.two_pow_pos _))
theorem far_not {x : Nat} (h : Far x) : (double.order x 13920626448202203136 == some .gt) = false ∨ (double.order x 4697254411347427328 == some .lt) = false := by
  unfold Format.order
  rw [read_lo, read_hi]
  rcases h with ⟨neg, m, e, hr, hm, he⟩ | ⟨neg, hr⟩
  · rw [hr]
    replace he : -32 ≤ e := he
    unfold Datum.order
    have hb : min e (-32) = -32 := by omega
    simp only [hb, show (e - -32) = e + 32 by omega]
    have := far_shift (e := e) hm
    cases neg
    · right
      apply cmp_not_lt
      unfold signed
      simp only [Bool.false_eq_true, if_false]
      rw [show ((-32 : Int) - -32).toNat = 0 from rfl, Nat.shiftLeft_zero]
      exact Int.ofNat_le.2 this
    · left
      apply cmp_not_gt
      unfold signed
      simp only [if_true]
      rw [show ((-32 : Int) - -32).toNat = 0 from rfl, Nat.shiftLeft_zero]
      have := Int.ofNat_le.2 this
      omega
  · rw [hr]
    cases neg
    · right; rfl
    · left; rfl
theorem far_whole {x : Nat} (h : Far x) : wholeB x = false := by
  unfold wholeB
  rcases far_not h with h | h <;> rw [h] <;> simp
theorem nan_order {x : Nat} (h : NaN x) (y : Nat) : double.order x y = none := by
  obtain ⟨neg, t, hr⟩ := h
  unfold Format.order Datum.order
  rw [hr]
theorem nan_whole {x : Nat} (h : NaN x) : wholeB x = false := by
  unfold wholeB
  rw [nan_order h]; rfl

/-- A great number is written greatly. -/
theorem nearest_far (E : Nat) (neg : Bool) (mag : Nat) (place : Int) (h0 : mag ≠ 0) (h : E ≤ place + mag.log2) : FarAt E (double.nearest neg mag place) := by
  have hl := (Nat.log2_eq_iff h0 (k := mag.log2)).1 rfl
  unfold Format.nearest
  rw [if_neg h0]
  dsimp only
  rw [d_least, d_frac, d_binade, d_inf]
  have e1 : max (place + (mag.log2 : Int) - ((52 : Nat) : Int)) (-1074) = place + mag.log2 - 52 := by omega
  rw [e1]
  have hk : 4503599627370496 ≤ Toward.even.cut neg (mag <<< (place - (place + (mag.log2 : Int) - 52)).toNat) (place + (mag.log2 : Int) - 52 - place).toNat := by
    by_cases c : mag.log2 ≤ 52
    · have a1 : (place - (place + (mag.log2 : Int) - 52)).toNat = 52 - mag.log2 := by omega
      have a2 : (place + (mag.log2 : Int) - 52 - place).toNat = 0 := by omega
      rw [a1, a2, Nat.shiftLeft_eq]
      have := cut_exact neg (mag * 2 ^ (52 - mag.log2)) 0 (Nat.mul_ne_zero h0 (Nat.pos_iff_ne_zero.1 (Nat.two_pow_pos _)))
      rw [Nat.pow_zero, Nat.mul_one] at this
      rw [this]
      have := Nat.mul_le_mul_right (2 ^ (52 - mag.log2)) hl.1
      rw [← Nat.pow_add, show mag.log2 + (52 - mag.log2) = 52 by omega] at this
      exact this
    · have a1 : (place - (place + (mag.log2 : Int) - 52)).toNat = 0 := by omega
      have a2 : (place + (mag.log2 : Int) - 52 - place).toNat = mag.log2 - 52 := by omega
      rw [a1, a2, Nat.shiftLeft_zero]
      unfold Toward.cut
      have h2 : min (mag.log2 - 52) (mag.log2 + 2) = mag.log2 - 52 := by omega
      simp only [h2, Nat.one_shiftLeft]
      refine Nat.le_trans ?_ (Nat.le_add_right _ _)
      rw [Nat.le_div_iff_mul_le (Nat.two_pow_pos _)]
      refine Nat.le_trans ?_ hl.1
      rw [show 4503599627370496 = 2 ^ 52 from rfl, ← Nat.pow_add]
      exact Nat.pow_le_pow_right (by omega) (by omega)
  generalize Toward.even.cut neg (mag <<< (place - (place + (mag.log2 : Int) - 52)).toNat) (place + (mag.log2 : Int) - 52 - place).toNat = kept at hk
  have e2 : E + 1022 ≤ (place + (mag.log2 : Int) - 52 - -1074).toNat := by omega
  generalize (place + (mag.log2 : Int) - 52 - -1074).toNat = g at e2
  by_cases c : g * 4503599627370496 + kept < 9218868437227405312
  · left
    rw [show min (g * 4503599627370496 + kept) 9218868437227405312 = g * 4503599627370496 + kept by omega, read_word _ _ (by omega) c]
    exact ⟨_, _, _, rfl, by omega, by omega⟩
  · right
    rw [show min (g * 4503599627370496 + kept) 9218868437227405312 = 9218868437227405312 by omega]
    exact ⟨neg, by cases neg <;> decide⟩
theorem log2_ge {m k : Nat} (h : 2 ^ k ≤ m) : k ≤ m.log2 := by
  rw [Nat.le_log2 (by have := Nat.two_pow_pos k; omega)]; exact h
/-- A great whole number. -/
theorem ofInt_far (E : Nat) (n : Int) (h : 2 ^ E ≤ n.natAbs) : FarAt E (floatOfInt .f64 n) := by
  unfold floatOfInt FloatKind.nearest FloatKind.encode FloatKind.format Format.write
  refine nearest_far E _ _ _ (by have := Nat.two_pow_pos E; omega) ?_
  have := log2_ge (k := E) (m := n.natAbs) h
  omega
end Go.Proofs.Ytbgllbjkmjlipaa
