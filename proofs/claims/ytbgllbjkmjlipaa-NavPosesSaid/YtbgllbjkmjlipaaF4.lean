/- Numbers that are not right are not right, and none of the four noses: no program in sight. -/
import Derived.Test.YtbgllbjkmjlipaaF3
namespace Go.Proofs.Ytbgllbjkmjlipaa
open Ieee

theorem read_half (neg : Bool) (N K : Nat) (h : N ≠ 0) (hN : N < 9007199254740992) : double.read (double.nearest neg (N * 2 ^ K) (-((K + 1 : Nat) : Int))) = .number neg (N * 2 ^ (52 - N.log2)) (-((53 - N.log2 : Nat) : Int)) := by
  have hlog : N.log2 < 53 := (Nat.log2_lt h).2 hN
  have hb := norm_bd h hN
  have h0 : N * 2 ^ K ≠ 0 := Nat.mul_ne_zero h (Nat.pos_iff_ne_zero.1 (Nat.two_pow_pos _))
  unfold Format.nearest
  rw [if_neg h0]
  dsimp only
  rw [d_least, d_frac, d_binade, d_inf, log2_mul_pow K h]
  have e1 : max (-((K + 1 : Nat) : Int) + ((N.log2 + K : Nat) : Int) - ((52 : Nat) : Int)) (-1074) = (N.log2 : Int) - 53 := by omega
  rw [e1]
  have e2 : ((N.log2 : Int) - 53 - -1074).toNat = N.log2 + 1021 := by omega
  rw [e2]
  have hk : Toward.even.cut neg ((N * 2 ^ K) <<< (-((K + 1 : Nat) : Int) - ((N.log2 : Int) - 53)).toNat) ((N.log2 : Int) - 53 - -((K + 1 : Nat) : Int)).toNat = N * 2 ^ (52 - N.log2) := by
    rw [Nat.shiftLeft_eq]
    by_cases c : K ≤ 52 - N.log2
    · have a1 : (-((K + 1 : Nat) : Int) - ((N.log2 : Int) - 53)).toNat = 52 - N.log2 - K := by omega
      have a2 : ((N.log2 : Int) - 53 - -((K + 1 : Nat) : Int)).toNat = 0 := by omega
      rw [a1, a2, Nat.mul_assoc, ← Nat.pow_add, show K + (52 - N.log2 - K) = 52 - N.log2 by omega]
      have := cut_exact neg (N * 2 ^ (52 - N.log2)) 0 (Nat.mul_ne_zero h (Nat.pos_iff_ne_zero.1 (Nat.two_pow_pos _)))
      simpa using this
    · have a1 : (-((K + 1 : Nat) : Int) - ((N.log2 : Int) - 53)).toNat = 0 := by omega
      have a2 : ((N.log2 : Int) - 53 - -((K + 1 : Nat) : Int)).toNat = K - (52 - N.log2) := by omega
      rw [a1, a2, Nat.pow_zero, Nat.mul_one]
      have := cut_exact neg (N * 2 ^ (52 - N.log2)) (K - (52 - N.log2)) (Nat.mul_ne_zero h (Nat.pos_iff_ne_zero.1 (Nat.two_pow_pos _)))
      rw [Nat.mul_assoc, ← Nat.pow_add, show 52 - N.log2 + (K - (52 - N.log2)) = K by omega] at this
      exact this
  rw [hk]
  generalize N * 2 ^ (52 - N.log2) = m at hb
  rw [show min ((N.log2 + 1021) * 4503599627370496 + m) 9218868437227405312 = (N.log2 + 1021) * 4503599627370496 + m by omega, read_word _ _ (by omega) (by omega)]
  have e3 : ((N.log2 + 1021) * 4503599627370496 + m) % 4503599627370496 = m - 4503599627370496 := by omega
  have e4 : ((N.log2 + 1021) * 4503599627370496 + m) / 4503599627370496 = N.log2 + 1022 := by omega
  have e5 : 4503599627370496 + (m - 4503599627370496) = m := by omega
  have e6 : -1074 + ((N.log2 + 1022 - 1 : Nat) : Int) = -((53 - N.log2 : Nat) : Int) := by omega
  rw [e3, e4, e5, e6]

/-- A half more than a whole number. -/
def Half (x : Nat) (n : Int) : Prop := ∃ k : Nat, double.read x = .number (decide (2 * n + 1 < 0)) ((2 * n + 1).natAbs * 2 ^ k) (-((k + 1 : Nat) : Int))
theorem sg_odd (z : Bool) (n : Int) : sg z (2 * n + 1) = decide (2 * n + 1 < 0) := by
  unfold sg; rw [if_neg (by omega)]
theorem half_order {x : Nat} {n : Int} (h : Half x n) (z : Bool) (c : Int) (hc : c.natAbs < 9007199254740992) : (double.order x (wd z c) == some .eq) = false := by
  obtain ⟨k, e1⟩ := h
  obtain ⟨j, e2⟩ := wd_read z c hc
  unfold Format.order Datum.order
  rw [e1, e2, ← sg_odd false n]
  have hb : min (-((k + 1 : Nat) : Int)) (-(j : Int)) = -((max (k + 1) j : Nat) : Int) := by omega
  have h1 : (-((k + 1 : Nat) : Int) - -((max (k + 1) j : Nat) : Int)).toNat = max (k + 1) j - (k + 1) := by omega
  have h2 : (-(j : Int) - -((max (k + 1) j : Nat) : Int)).toNat = max (k + 1) j - j := by omega
  simp only [hb, h1, h2, signed_eq]
  rw [show j + (max (k + 1) j - j) = (k + (max (k + 1) j - (k + 1))) + 1 by omega, Int.pow_succ, show c * (2 ^ (k + (max (k + 1) j - (k + 1))) * 2) = (2 * c) * 2 ^ (k + (max (k + 1) j - (k + 1))) by
    rw [Int.mul_comm (2 ^ _) 2, ← Int.mul_assoc, Int.mul_comm c 2], cmp_pow, cmp_eq]
  simp; omega
theorem half_whole {x : Nat} {n : Int} (h : Half x n) (hn : n.natAbs < 4503599627370496) : wholeB x = false := by
  have h' := h
  obtain ⟨k, e1⟩ := h'
  have hi : (double.read x).integral .zero = .number (decide (2 * n + 1 < 0)) ((2 * n + 1).natAbs / 2) 0 := by
    rw [e1]
    unfold Datum.integral
    have h1 : (-((k + 1 : Nat) : Int)).toNat = 0 := by omega
    have h2 : (- -((k + 1 : Nat) : Int)).toNat = k + 1 := by omega
    simp only [h1, h2, Nat.shiftLeft_zero]
    congr 1
    unfold Toward.cut
    have g1 := log2_mul_pow k (N := (2 * n + 1).natAbs) (by omega)
    have g2 : min (k + 1) (((2 * n + 1).natAbs * 2 ^ k).log2 + 2) = k + 1 := by omega
    simp only [g2, Nat.one_shiftLeft]
    rw [Nat.pow_succ, ← Nat.div_div_eq_div_mul, Nat.mul_div_cancel _ (Nat.two_pow_pos k)]
    simp
  unfold wholeB
  rw [hi]
  have hw : double.write (.number (decide (2 * n + 1 < 0)) ((2 * n + 1).natAbs / 2) 0) = wd (decide (2 * n + 1 < 0)) (if 2 * n + 1 < 0 then -(((2 * n + 1).natAbs / 2 : Nat) : Int) else ((2 * n + 1).natAbs / 2 : Nat)) := by
    by_cases c : 2 * n + 1 < 0
    · rw [if_pos c, decide_eq_true c]
      unfold wd
      rw [Int.natAbs_neg, Int.natAbs_natCast]
      congr 2
      split
      · rfl
      · exact (decide_eq_true (by omega)).symm
    · rw [if_neg c, decide_eq_false c]
      unfold wd
      rw [Int.natAbs_natCast]
      congr 2
      split
      · rfl
      · exact (decide_eq_false (by omega)).symm
  rw [hw, half_order h _ _ (by split <;> omega)]
  rfl
theorem far_order {x : Nat} (h : Far x) (z : Bool) (c : Int) (hc : c.natAbs < 1048576) : (double.order x (wd z c) == some .eq) = false := by
  obtain ⟨j, e2⟩ := wd_read z c (by omega)
  unfold Format.order
  rw [e2]
  rcases h with ⟨neg, m, e, hr, hm, he⟩ | ⟨neg, hr⟩
  · rw [hr]
    replace he : -32 ≤ e := he
    unfold Datum.order
    dsimp only
    rw [signed_eq, cmp_eq]
    apply decide_eq_false
    intro hEq
    have hA := congrArg Int.natAbs hEq
    rw [natAbs_pow] at hA
    have hS : (signed neg m (e - min e (-(j : Int))).toNat).natAbs = m * 2 ^ (e - min e (-(j : Int))).toNat := by
      unfold signed; rw [Nat.shiftLeft_eq]; split
      · rw [Int.natAbs_neg, Int.natAbs_natCast]
      · rw [Int.natAbs_natCast]
    rw [hS] at hA
    generalize hp : (e - min e (-(j : Int))).toNat = p at hA
    generalize hq : j + (-(j : Int) - min e (-(j : Int))).toNat = q at hA
    have hpq : q ≤ p + 32 := by omega
    have g1 : c.natAbs * 2 ^ q ≤ c.natAbs * 2 ^ (p + 32) := Nat.mul_le_mul_left _ (Nat.pow_le_pow_right (by omega) hpq)
    have g2 : c.natAbs * 2 ^ (p + 32) = c.natAbs * 4294967296 * 2 ^ p := by rw [Nat.pow_add, Nat.mul_comm (2 ^ p), ← Nat.mul_assoc]
    have g3 : c.natAbs * 4294967296 * 2 ^ p < m * 2 ^ p := Nat.mul_lt_mul_of_pos_right (by omega) (Nat.two_pow_pos p)
    omega
  · rw [hr]
    cases neg <;> rfl
/-- A part that is not right. -/
def Bad (x : Nat) : Prop := wholeB x = false ∧ ∀ (z : Bool) (c : Int), c.natAbs < 1048576 → (double.order x (wd z c) == some .eq) = false
theorem far_bad {x : Nat} (h : Far x) : Bad x := ⟨far_whole h, fun z c hc => far_order h z c hc⟩
theorem nan_bad {x : Nat} (h : NaN x) : Bad x := ⟨nan_whole h, fun z c _ => by rw [nan_order h]; rfl⟩
theorem half_bad {x : Nat} {n : Int} (h : Half x n) (hn : n.natAbs < 4503599627370496) : Bad x := ⟨half_whole h hn, fun z c hc => half_order h z c (by omega)⟩
/-- The float of a whole number: right, or not. -/
theorem ofInt_cases (n : Int) : (-1048576 < n ∧ n < 1048576 ∧ floatOfInt .f64 n = wd false n) ∨ (¬ (-1048576 < n ∧ n < 1048576) ∧ Bad (floatOfInt .f64 n)) := by
  by_cases h : -1048576 < n ∧ n < 1048576
  · exact .inl ⟨h.1, h.2, ofInt_wd n⟩
  · exact .inr ⟨h, far_bad (ofInt_far 20 n (by omega))⟩
theorem read_05 : double.read 4602678819172646912 = .number false 4503599627370496 (-53) := by decide
/-- A half more than a whole number: never right. -/
theorem add_half (n : Int) : ∃ x, double.add (floatOfInt .f64 n) 4602678819172646912 = some x ∧ Bad x := by
  by_cases hx : n.natAbs < 9007199254740992
  · obtain ⟨k, e1⟩ := wd_read false n hx
    have hsum : Datum.sum (.number (sg false n) (n.natAbs * 2 ^ k) (-(k : Int))) (.number false 4503599627370496 (-53)) = some (.number (decide (2 * n + 1 < 0)) ((2 * n + 1).natAbs * 2 ^ (max k 53 - 1)) (-((max k 53 - 1 + 1 : Nat) : Int))) := by
      unfold Datum.sum
      have hb : min (-(k : Int)) (-53) = -((max k 53 - 1 + 1 : Nat) : Int) := by omega
      have h1 : (-(k : Int) - -((max k 53 - 1 + 1 : Nat) : Int)).toNat = max k 53 - 1 + 1 - k := by omega
      have h2 : (-53 - -((max k 53 - 1 + 1 : Nat) : Int)).toNat = max k 53 - 53 := by omega
      simp only [hb, h1, h2, signed_eq]
      have h3 : signed false 4503599627370496 (max k 53 - 53) = 2 ^ (max k 53 - 1) := by
        unfold signed
        rw [Nat.shiftLeft_eq, show 4503599627370496 = 2 ^ 52 from rfl, ← Nat.pow_add, show 52 + (max k 53 - 53) = max k 53 - 1 by omega]
        simp
      have h4 : n * 2 ^ (k + (max k 53 - 1 + 1 - k)) + signed false 4503599627370496 (max k 53 - 53) = (2 * n + 1) * 2 ^ (max k 53 - 1) := by
        rw [h3, show k + (max k 53 - 1 + 1 - k) = (max k 53 - 1) + 1 by omega, Int.pow_succ, Int.add_mul, Int.one_mul, Int.mul_comm (2 ^ _) 2, ← Int.mul_assoc, Int.mul_comm n 2]
      rw [h4, natAbs_pow]
      simp only [mul_pow_zero, mul_pow_neg]
      rw [if_neg (by omega)]
    refine ⟨double.write (.number (decide (2 * n + 1 < 0)) ((2 * n + 1).natAbs * 2 ^ (max k 53 - 1)) (-((max k 53 - 1 + 1 : Nat) : Int))), ?_, ?_⟩
    · unfold Format.add
      rw [ofInt_wd, e1, read_05, hsum, Option.map_some]
    · by_cases hs : n.natAbs ≤ 1048576 ∧ n ≠ 1048576
      · have hl : (2 * n + 1).natAbs.log2 < 53 := (Nat.log2_lt (by omega)).2 (by omega)
        have hr := read_half (decide (2 * n + 1 < 0)) (2 * n + 1).natAbs (max k 53 - 1) (by omega) (by omega)
        rw [show 53 - (2 * n + 1).natAbs.log2 = 52 - (2 * n + 1).natAbs.log2 + 1 by omega] at hr
        exact half_bad (n := n) ⟨_, hr⟩ (by omega)
      · refine far_bad (nearest_far 20 _ _ _ ?_ ?_)
        · exact Nat.mul_ne_zero (by omega) (Nat.pos_iff_ne_zero.1 (Nat.two_pow_pos _))
        · rw [log2_mul_pow _ (by omega)]
          have := log2_ge (k := 21) (m := (2 * n + 1).natAbs) (by omega)
          omega
  · have hf := ofInt_far 53 n (by omega)
    unfold Format.add
    rw [read_05]
    rcases hf with ⟨neg, m, e, hr, hm, he⟩ | ⟨neg, hr⟩
    · replace he : 1 ≤ e := he
      rw [hr]
      unfold Datum.sum
      have hb : min e (-53) = -53 := by omega
      simp only [hb, show (-53 - -53 : Int).toNat = 0 from rfl, Option.map_some]
      refine ⟨_, rfl, far_bad (nearest_far 20 _ _ _ ?_ ?_)⟩
      all_goals
        have hS : 4503599627370496 * 18014398509481984 ≤ (signed neg m (e - -53).toNat).natAbs := by
          have : (signed neg m (e - -53).toNat).natAbs = m * 2 ^ (e - -53).toNat := by
            unfold signed; rw [Nat.shiftLeft_eq]; split
            · rw [Int.natAbs_neg, Int.natAbs_natCast]
            · rw [Int.natAbs_natCast]
          rw [this]
          exact Nat.mul_le_mul hm (show 2 ^ 54 ≤ _ from Nat.pow_le_pow_right (by omega) (by omega))
        have hT : signed false 4503599627370496 0 = 4503599627370496 := by decide
        rw [hT]
        generalize signed neg m (e - -53).toNat = S at hS
      · omega
      · have := log2_ge (k := 80) (m := (S + 4503599627370496).natAbs) (by omega)
        omega
    · rw [hr]
      refine ⟨double.write (.infinity neg), rfl, far_bad (.inr ⟨neg, by cases neg <;> decide⟩)⟩
end Go.Proofs.Ytbgllbjkmjlipaa
