/- Plain law of a number's word; contracts: half, halves, the document's Word and Number. -/
import Derived.Test.YtbgllbjkmjlipaaN2
namespace Go.Proofs.Ytbgllbjkmjlipaa
open Go.RowKit
attribute [local go_sem] fmt64

/-- A signed number of 32 bits. -/
def s32 (n : Nat) : Int := if 2147483648 ≤ n then (n : Int) - 4294967296 else n
/-- The 32 bits of a number. -/
def w32 (R : Int) : Nat := if R < 0 then (R + 4294967296).toNat else R.toNat
theorem s32_w32 {R : Int} (h : R.natAbs < 1048576) : s32 (w32 R) = R := by
  unfold s32 w32
  split <;> split <;> omega
theorem w32_lt {R : Int} (h : R.natAbs < 1048576) : w32 R < 4294967296 := by unfold w32; split <;> omega
theorem u64of_w32 {R : Int} (h : R.natAbs < 1048576) : u64of R % 4294967296 = w32 R := by
  unfold u64of w32
  split <;> omega
theorem sgn_lo (x : Nat) : i64of (sgnW 0 32 x) = s32 (x % 4294967296) := by
  rw [← sgn_eq 0 32 x (by omega) (by omega)]
  unfold i64of s32
  simp only [show 64 - 0 - 32 = 32 from rfl, show (2 : Nat) ^ 32 = 4294967296 from rfl, show (2 : Int) ^ 32 = 4294967296 from rfl]
  split <;> omega
theorem sgn_hi (x : Nat) (hx : x < 18446744073709551616) : i64of (sgnW 32 32 x) = s32 (x / 4294967296) := by
  rw [← sgn_eq 32 32 x (by omega) (by omega)]
  unfold i64of s32
  simp only [show 64 - 32 - 32 = 0 from rfl, show 64 - 32 = 32 from rfl, show (2 : Nat) ^ 0 = 1 from rfl, show (2 : Int) ^ 32 = 4294967296 from rfl]
  split <;> omega
theorem set_lo (x : Nat) : setW 0 32 0 x = x % 4294967296 := by
  apply Nat.eq_of_testBit_eq
  intro i
  rw [setW, testBit_wordOf, show 4294967296 = 2 ^ 32 from rfl, Nat.testBit_mod_two_pow]
  by_cases c : i < 32
  · simp [c, show i < 64 by omega]
  · simp [c]
theorem set_hi (x y : Nat) (hx : x < 4294967296) : setW 32 32 x y = (y % 4294967296) * 4294967296 + x := by
  apply Nat.eq_of_testBit_eq
  intro i
  rw [setW, testBit_wordOf, show 4294967296 = 2 ^ 32 from rfl, Nat.mul_comm, Nat.testBit_two_pow_mul_add _ hx, Nat.testBit_mod_two_pow]
  by_cases c : i < 32
  · simp [c, show i < 64 by omega, show ¬ 32 ≤ i by omega]
  · by_cases c2 : i < 64
    · simp [c, c2, show 32 ≤ i by omega, show i - 32 < 32 by omega]
    · simp [c, c2, show ¬ i - 32 < 32 by omega]
/-- A number's word. -/
def wrdF (R I : Int) : Nat := w32 I * 4294967296 + w32 R
theorem wrdF_lt {R I : Int} (h : R.natAbs < 1048576) (h' : I.natAbs < 1048576) : wrdF R I < 18446744073709551616 := by
  have := w32_lt h
  have := w32_lt h'
  unfold wrdF
  omega
theorem wrd_lo {R I : Int} (h : R.natAbs < 1048576) : s32 (wrdF R I % 4294967296) = R := by
  have := w32_lt h
  rw [show wrdF R I % 4294967296 = w32 R by unfold wrdF; omega, s32_w32 h]
theorem wrd_hi {R I : Int} (h : R.natAbs < 1048576) (h' : I.natAbs < 1048576) : s32 (wrdF R I / 4294967296) = I := by
  have := w32_lt h
  rw [show wrdF R I / 4294967296 = w32 I by unfold wrdF; omega, s32_w32 h']
theorem s32_bd {n : Nat} (h : n < 4294967296) : (s32 n).natAbs < 9007199254740992 := by unfold s32; split <;> omega

theorem lo_may : mayB 0 32 = true := by decide
theorem hi_may : mayB 32 32 = true := by decide
theorem put_lo {R : Int} (h : R.natAbs < 1048576) : sputOk 0 32 0 R = true ∧ setF 0 32 0 (u64of R) = w32 R := by
  have e : setF 0 32 0 (u64of R) = w32 R := by
    show setW 0 32 0 (u64of R) = _
    rw [set_lo, u64of_w32 h]
  refine ⟨?_, e⟩
  unfold sputOk sgnF
  rw [lo_may, e, if_pos rfl]
  show (true && (i64of (sgnW 0 32 (w32 R)) == R)) = true
  rw [sgn_lo, Nat.mod_eq_of_lt (w32_lt h), s32_w32 h]
  simp
theorem put_hi {R I : Int} (h : R.natAbs < 1048576) (h' : I.natAbs < 1048576) : sputOk 32 32 (w32 R) I = true ∧ setF 32 32 (w32 R) (u64of I) = wrdF R I := by
  have e : setF 32 32 (w32 R) (u64of I) = wrdF R I := by
    show setW 32 32 (w32 R) (u64of I) = _
    rw [set_hi _ _ (w32_lt h), u64of_w32 h']
    rfl
  refine ⟨?_, e⟩
  unfold sputOk sgnF
  rw [hi_may, e, if_pos rfl]
  show (true && (i64of (sgnW 32 32 (wrdF R I)) == I)) = true
  rw [sgn_hi _ (wrdF_lt h h'), wrd_hi h h']
  simp

theorem half_any (R : Int) (h : R.natAbs < 1048576) (w : World) : Calls Try.prog 94 #[.float .f64 (wd false R)] w fun e w' => e = .returned (.tuple #[.int .i64 R, .bool true]) ∧ w = w' := by
  have e1 : (13970166044103278592 : Nat) = wd false (-2147483648) := by decide
  have e2 : (4746794007248502784 : Nat) = wd false 2147483648 := by decide
  have o1 : (Ieee.double.order (wd false R) 13970166044103278592 == some .gt || Ieee.double.order (wd false R) 13970166044103278592 == some .eq) = true := by
    rw [e1, order_wd _ _ _ _ (by omega) (by decide), cmp_gt, cmp_eq, ← Bool.decide_or]
    exact decide_eq_true (by omega)
  have o2 : (Ieee.double.order (wd false R) 4746794007248502784 == some .lt) = true := by
    rw [e2, order_wd _ _ _ _ (by omega) (by decide), cmp_lt]
    exact decide_eq_true (by omega)
  have o3 : Ieee.double.order (wd false R) (wd false R) = some .eq := by
    have := order_wd false false R R (by omega) (by omega)
    rwa [Int.compare_eq_eq.2 rfl] at this
  have c1 : ∀ w, (convert 59 2 (.float .f64 (wd false R))).run Try.prog w = .ok (.int .i64 R) w := fun w => run_convert_float_int w 59 2 .f64 .i64 (wd false R) R (by kernel_rfl) (by kernel_rfl) (floatToInt_wd false R (by omega))
  have c2 := ofInt_wd R
  clear e1 e2 h
  go_enter Try.func94, Try.ntmps94
  go_wp2
  go_ret2
  exact ⟨rfl, rfl⟩

theorem word_any (R I : Int) (h : R.natAbs < 1048576) (h' : I.natAbs < 1048576) (w : World) : Calls Try.prog 65 #[zz R I] w fun e w' => e = .returned (.int .u64 (wrdF R I)) ∧ Below w.heap.size w w' := by
  have hB0 := (Below.refl w.heap.size w).alloc (Nat.le_refl _) (Obj.cells #[.int .i64 R, .int .i64 I] 39)
  have wr : IntKind.i64.wrap (R + 4294967296) = R + 4294967296 := IntWalk.i64_in _ (by omega)
  have wi : IntKind.i64.wrap (I + 4294967296) = I + 4294967296 := IntWalk.i64_in _ (by omega)
  have k : ∀ r i : Int, 0 ≤ r → r < 4294967296 → 0 ≤ i → i < 4294967296 → IntKind.u64.wrap r = r ∧ IntKind.u64.wrap i = i ∧ IntKind.u64.wrap (i * 4294967296) = i * 4294967296 ∧ IntKind.u64.wrap (i * 4294967296 + r) = i * 4294967296 + r := by
    intro r i h1 h2 h3 h4
    simp only [IntKind.wrap_u64]
    omega
  by_cases c1 : R < 0
  · by_cases c2 : I < 0
    · obtain ⟨k1, k2, k3, k4⟩ := k (R + 4294967296) (I + 4294967296) (by omega) (by omega) (by omega) (by omega)
      have e : ((wrdF R I : Nat) : Int) = (I + 4294967296) * 4294967296 + (R + 4294967296) := by unfold wrdF w32; rw [if_pos c1, if_pos c2]; omega
      have d1 : decide (R < 0) = true := by simpa using c1
      have d2 : decide (I < 0) = true := by simpa using c2
      rw [e]
      clear k c1 c2 e
      go_enter Try.func65, Try.ntmps65
      go_wp2
      go_ret
      exact ⟨rfl, hB0⟩
    · obtain ⟨k1, k2, k3, k4⟩ := k (R + 4294967296) I (by omega) (by omega) (by omega) (by omega)
      have e : ((wrdF R I : Nat) : Int) = I * 4294967296 + (R + 4294967296) := by unfold wrdF w32; rw [if_pos c1, if_neg c2]; omega
      have d1 : decide (R < 0) = true := by simpa using c1
      have d2 : decide (I < 0) = false := by simpa using c2
      rw [e]
      clear k c1 c2 e
      go_enter Try.func65, Try.ntmps65
      go_wp2
      go_ret
      exact ⟨rfl, hB0⟩
  · by_cases c2 : I < 0
    · obtain ⟨k1, k2, k3, k4⟩ := k R (I + 4294967296) (by omega) (by omega) (by omega) (by omega)
      have e : ((wrdF R I : Nat) : Int) = (I + 4294967296) * 4294967296 + R := by unfold wrdF w32; rw [if_neg c1, if_pos c2]; omega
      have d1 : decide (R < 0) = false := by simpa using c1
      have d2 : decide (I < 0) = true := by simpa using c2
      rw [e]
      clear k c1 c2 e
      go_enter Try.func65, Try.ntmps65
      go_wp2
      go_ret
      exact ⟨rfl, hB0⟩
    · obtain ⟨k1, k2, k3, k4⟩ := k R I (by omega) (by omega) (by omega) (by omega)
      have e : ((wrdF R I : Nat) : Int) = I * 4294967296 + R := by unfold wrdF w32; rw [if_neg c1, if_neg c2]; omega
      have d1 : decide (R < 0) = false := by simpa using c1
      have d2 : decide (I < 0) = false := by simpa using c2
      rw [e]
      clear k c1 c2 e
      go_enter Try.func65, Try.ntmps65
      go_wp2
      go_ret
      exact ⟨rfl, hB0⟩
end Go.Proofs.Ytbgllbjkmjlipaa
