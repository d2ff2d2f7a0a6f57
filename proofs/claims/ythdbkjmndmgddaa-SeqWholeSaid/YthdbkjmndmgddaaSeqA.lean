/- Contracts of the functions of packages seq and aileronref07, each proved once: for every sequence, generation and depth, each function returns the plain function of its arguments, and leaves the world as it was. -/
import Derived.Test.YthdbkjmndmgddaaRows
import Derived.WalkKit
import Derived.WalkSpells
import Derived.WalkLawsBesides
import Derived.BigGuardPart
import Derived.Lib.Hide
import Derived.ScopeJumps
namespace Go.Proofs.Ythdbkjmndmgddaa
open Go.RowKit

theorem ret_bool {a b : Bool} (h : a = b) : Ending.returned (.bool a) = .returned (.bool b) := by rw [h]
theorem ret_int {k : IntKind} {a b : Int} (h : a = b) : Ending.returned (.int k a) = .returned (.int k b) := by rw [h]

theorem and1_u64 (s : Int) (h0 : 0 ≤ s) (h1 : s ≤ 18446744073709551615) : bits .and .u64 s 1 = s % 2 := by
  rw [u64_and s 1 h0 (by omega) (by omega) (by omega)]
  obtain ⟨n, rfl⟩ := Int.eq_ofNat_of_zero_le h0
  simp

def mayB (d : Int) : Bool := decide (2 ≤ d ∧ d ≤ 16)
def heldB (s : Int) : Bool := decide (s % 2 = 1)
def wholeB (s g d : Int) : Bool := decide (g ≤ s / 2 ∧ s / 2 + s % 2 - g < d)
def keptB (s g d : Int) : Bool := decide (2 ≤ d ∧ d ≤ 16 ∧ g ≤ s / 2 ∧ s / 2 + s % 2 - g < d)
def firstI (s d : Int) : Int := if 2 ≤ d ∧ d ≤ 16 then (if s / 2 + s % 2 - d + 1 < 0 then 0 else s / 2 + s % 2 - d + 1) else 0

set_option maxHeartbeats 400000 in
theorem gen_any (s : Int) (w : World) :
    Calls Try.prog 14 #[.int .u64 s] w fun e w' => e = .returned (.int .u64 (s / 2)) ∧ w = w' := by
  go_enter Try.func14, Try.ntmps14
  go_wp2
  go_ret
  exact ⟨rfl, rfl⟩

set_option maxHeartbeats 400000 in
theorem held_any (s : Int) (h0 : 0 ≤ s) (h1 : s ≤ 18446744073709551615) (w : World) :
    Calls Try.prog 15 #[.int .u64 s] w fun e w' => e = .returned (.bool (heldB s)) ∧ w = w' := by
  go_enter Try.func15, Try.ntmps15
  go_wp2
  go_ret
  refine ⟨ret_bool ?_, rfl⟩
  rw [and1_u64 s h0 h1]
  unfold heldB
  rw [Bool.eq_iff_iff]; simp; omega

set_option maxHeartbeats 400000 in
theorem rgen_any (s : Int) (h0 : 0 ≤ s) (h1 : s ≤ 18446744073709551615) (w : World) :
    Calls Try.prog 18 #[.int .u64 s] w fun e w' => e = .returned (.int .u64 (s / 2)) ∧ w = w' := by
  go_enter Try.func18, Try.ntmps18
  go_wp2
  go_ret
  exact ⟨rfl, rfl⟩

set_option maxHeartbeats 400000 in
theorem rheld_any (s : Int) (h0 : 0 ≤ s) (h1 : s ≤ 18446744073709551615) (w : World) :
    Calls Try.prog 19 #[.int .u64 s] w fun e w' => e = .returned (.bool (heldB s)) ∧ w = w' := by
  go_enter Try.func19, Try.ntmps19
  go_wp2
  go_ret
  refine ⟨ret_bool ?_, rfl⟩
  unfold heldB
  rw [Bool.eq_iff_iff]; simp

set_option maxHeartbeats 400000 in
theorem may_any (d : Int) (w : World) :
    Calls Try.prog 22 #[.int .i64 d] w fun e w' => e = .returned (.bool (mayB d)) ∧ w = w' := by
  by_cases h1 : 2 ≤ d
  · go_enter Try.func22, Try.ntmps22
    go_wp2
    go_ret
    refine ⟨ret_bool ?_, rfl⟩
    unfold mayB
    rw [Bool.eq_iff_iff]; simp; omega
  · go_enter Try.func22, Try.ntmps22
    go_wp2
    go_ret
    refine ⟨ret_bool ?_, rfl⟩
    unfold mayB
    rw [Bool.eq_iff_iff]; simp; omega

set_option maxHeartbeats 400000 in
theorem rmay_any (d : Int) (w : World) :
    Calls Try.prog 24 #[.int .i64 d] w fun e w' => e = .returned (.bool (mayB d)) ∧ w = w' := by
  by_cases h1 : 2 ≤ d
  · go_enter Try.func24, Try.ntmps24
    go_wp2
    go_ret
    refine ⟨ret_bool ?_, rfl⟩
    unfold mayB
    rw [Bool.eq_iff_iff]; simp; omega
  · go_enter Try.func24, Try.ntmps24
    go_wp2
    go_ret
    refine ⟨ret_bool ?_, rfl⟩
    unfold mayB
    rw [Bool.eq_iff_iff]; simp; omega

set_option maxHeartbeats 400000 in
theorem newest_any (s : Int) (h0 : 0 ≤ s) (h1 : s ≤ 18446744073709551615) (w : World) :
    Calls Try.prog 23 #[.int .u64 s] w fun e w' => e = .returned (.int .u64 (s / 2 + s % 2)) ∧ w = w' := by
  go_enter Try.func23, Try.ntmps23
  go_wp2_with (go_at_call 14; refine (gen_any _ _).mono ?_; rintro e w' ⟨rfl, rfl⟩)
  go_ret
  refine ⟨ret_int ?_, rfl⟩
  rw [and1_u64 s h0 h1, IntWalk.u64_in _ (by omega)]


theorem kept_eq (s g d : Int) (c : 2 ≤ d ∧ d ≤ 16) (c2 : g ≤ s / 2) : decide (s / 2 + s % 2 - g < d) = keptB s g d := by
  unfold keptB; rw [Bool.eq_iff_iff]; simp; omega
theorem kept_no (s g d : Int) (c : ¬ (2 ≤ d ∧ d ≤ 16 ∧ g ≤ s / 2)) : false = keptB s g d := by
  unfold keptB; symm; rw [decide_eq_false_iff_not]; omega
theorem kept_rest (s g d : Int) (c : g ≤ s / 2) : (mayB d && wholeB s g d) = keptB s g d := by
  unfold keptB mayB wholeB; rw [Bool.eq_iff_iff]; simp; omega
theorem may_yes {d : Int} (c : 2 ≤ d ∧ d ≤ 16) : mayB d = true := by unfold mayB; simpa using c
theorem may_no {d : Int} (c : ¬ (2 ≤ d ∧ d ≤ 16)) : mayB d = false := by unfold mayB; exact decide_eq_false c

set_option maxHeartbeats 400000 in
theorem kept_any (s g d : Int) (h0 : 0 ≤ s) (h1 : s ≤ 18446744073709551615) (h2 : 0 ≤ g) (h3 : g ≤ 18446744073709551615) (w : World) :
    Calls Try.prog 9 #[.int .u64 s, .int .u64 g, .int .i64 d] w fun e w' => e = .returned (.bool (keptB s g d)) ∧ w = w' := by
  by_cases c : 2 ≤ d ∧ d ≤ 16
  · have hm := may_yes c
    by_cases c2 : g ≤ s / 2
    · go_enter Try.func9, Try.ntmps9
      go_wp2_with (first
        | (go_at_call 22; refine (may_any _ _).mono ?_; rintro e w' ⟨rfl, rfl⟩)
        | (go_at_call 14; refine (gen_any _ _).mono ?_; rintro e w' ⟨rfl, rfl⟩)
        | (go_at_call 23; refine (newest_any _ h0 h1 _).mono ?_; rintro e w' ⟨rfl, rfl⟩))
      go_ret
      exact ⟨ret_bool (kept_eq s g d c c2), rfl⟩
    · go_enter Try.func9, Try.ntmps9
      go_wp2_with (first
        | (go_at_call 22; refine (may_any _ _).mono ?_; rintro e w' ⟨rfl, rfl⟩)
        | (go_at_call 14; refine (gen_any _ _).mono ?_; rintro e w' ⟨rfl, rfl⟩))
      go_ret
      exact ⟨ret_bool (kept_no s g d (by omega)), rfl⟩
  · have hm := may_no c
    go_enter Try.func9, Try.ntmps9
    go_wp2_with (go_at_call 22; refine (may_any _ _).mono ?_; rintro e w' ⟨rfl, rfl⟩)
    go_ret
    exact ⟨ret_bool (kept_no s g d (by omega)), rfl⟩

theorem held_yes {s : Int} (c : s % 2 = 1) : heldB s = true := by unfold heldB; simpa using c
theorem held_no {s : Int} (c : ¬ s % 2 = 1) : heldB s = false := by unfold heldB; exact decide_eq_false c
theorem whole_1 (s g d : Int) (c : g ≤ s / 2) (h : s % 2 = 1) : decide (s / 2 - g + 1 < d) = wholeB s g d := by
  unfold wholeB; rw [Bool.eq_iff_iff]; simp; omega
theorem whole_0 (s g d : Int) (c : g ≤ s / 2) (h : ¬ s % 2 = 1) : decide (s / 2 - g < d) = wholeB s g d := by
  unfold wholeB; rw [Bool.eq_iff_iff]; simp; omega
theorem whole_no (s g d : Int) (c : ¬ g ≤ s / 2) : false = wholeB s g d := by
  unfold wholeB; symm; rw [decide_eq_false_iff_not]; omega

set_option maxHeartbeats 400000 in
theorem rwhole_any (s g d : Int) (h0 : 0 ≤ s) (h1 : s ≤ 18446744073709551615) (h2 : 0 ≤ g) (h3 : g ≤ 18446744073709551615) (h4 : 0 ≤ d) (h5 : d ≤ 1000) (w : World) :
    Calls Try.prog 25 #[.int .u64 s, .int .u64 g, .int .i64 d] w fun e w' => e = .returned (.bool (wholeB s g d)) ∧ w = w' := by
  by_cases c2 : g ≤ s / 2
  · by_cases c : s % 2 = 1
    · have hm := held_yes c
      have H := Lib.hid c; clear c
      go_enter Try.func25, Try.ntmps25
      go_wp2_with (first
        | (go_at_call 18; refine (rgen_any _ h0 h1 _).mono ?_; rintro e w' ⟨rfl, rfl⟩)
        | (go_at_call 19; refine (rheld_any _ h0 h1 _).mono ?_; rintro e w' ⟨rfl, rfl⟩))
      go_ret
      exact ⟨ret_bool (whole_1 s g d c2 H.out), rfl⟩
    · have hm := held_no c
      go_enter Try.func25, Try.ntmps25
      go_wp2_with (first
        | (go_at_call 18; refine (rgen_any _ h0 h1 _).mono ?_; rintro e w' ⟨rfl, rfl⟩)
        | (go_at_call 19; refine (rheld_any _ h0 h1 _).mono ?_; rintro e w' ⟨rfl, rfl⟩))
      go_ret
      exact ⟨ret_bool (whole_0 s g d c2 c), rfl⟩
  · go_enter Try.func25, Try.ntmps25
    go_wp2_with (go_at_call 18; refine (rgen_any _ h0 h1 _).mono ?_; rintro e w' ⟨rfl, rfl⟩)
    go_ret
    exact ⟨ret_bool (whole_no s g d (by omega)), rfl⟩

theorem rkept_1 (s g d : Int) (c : 2 ≤ d ∧ d ≤ 16) : wholeB s g d = keptB s g d := by
  unfold keptB wholeB; rw [Bool.eq_iff_iff]; simp; omega

set_option maxHeartbeats 400000 in
theorem rkept_any (s g d : Int) (h0 : 0 ≤ s) (h1 : s ≤ 18446744073709551615) (h2 : 0 ≤ g) (h3 : g ≤ 18446744073709551615) (w : World) :
    Calls Try.prog 10 #[.int .u64 s, .int .u64 g, .int .i64 d] w fun e w' => e = .returned (.bool (keptB s g d)) ∧ w = w' := by
  by_cases c : 2 ≤ d ∧ d ≤ 16
  · have hm := may_yes c
    go_enter Try.func10, Try.ntmps10
    go_wp2_with (first
      | (go_at_call 24; refine (rmay_any _ _).mono ?_; rintro e w' ⟨rfl, rfl⟩)
      | (go_at_call 25; refine (rwhole_any _ _ _ h0 h1 h2 h3 (by omega) (by omega) _).mono ?_; rintro e w' ⟨rfl, rfl⟩))
    go_ret
    exact ⟨ret_bool (rkept_1 s g d c), rfl⟩
  · have hm := may_no c
    go_enter Try.func10, Try.ntmps10
    go_wp2_with (go_at_call 24; refine (rmay_any _ _).mono ?_; rintro e w' ⟨rfl, rfl⟩)
    go_ret
    exact ⟨ret_bool (kept_no s g d (by omega)), rfl⟩

theorem first_step {s d m : Int} (c : 2 ≤ d ∧ d ≤ 16) (h : firstI s d < m) (hm : m ≤ s / 2) : keptB s (m - 1) d = true := by
  unfold keptB; unfold firstI at h; rw [if_pos c] at h; simp; split at h <;> omega
theorem first_stop {s d m : Int} (c : 2 ≤ d ∧ d ≤ 16) (h : firstI s d = m) (hm : 0 < m) : keptB s (m - 1) d = false := by
  unfold keptB; unfold firstI at h; rw [if_pos c] at h; apply decide_eq_false; split at h <;> omega
theorem first_bd (s d : Int) (h0 : 0 ≤ s) : 0 ≤ firstI s d ∧ firstI s d ≤ s / 2 := by
  unfold firstI; split
  · split <;> omega
  · omega
theorem first_no {s d : Int} (c : ¬ (2 ≤ d ∧ d ≤ 16)) : 0 = firstI s d := by unfold firstI; rw [if_neg c]
theorem wstep {s d m : Int} (c : 2 ≤ d ∧ d ≤ 16) (h : firstI s d < m) (hm : m ≤ s / 2) : wholeB s (m - 1) d = true := by
  rw [rkept_1 _ _ _ c]; exact first_step c h hm
theorem wstop {s d m : Int} (c : 2 ≤ d ∧ d ≤ 16) (h : firstI s d = m) (hm : 0 < m) : wholeB s (m - 1) d = false := by
  rw [rkept_1 _ _ _ c]; exact first_stop c h hm

set_option maxHeartbeats 400000 in
theorem rfirst_any (s d : Int) (h0 : 0 ≤ s) (h1 : s ≤ 18446744073709551615) (w : World) :
    Calls Try.prog 12 #[.int .u64 s, .int .i64 d] w fun e w' => e = .returned (.int .u64 (firstI s d)) ∧ w = w' := by
  by_cases c : 2 ≤ d ∧ d ≤ 16
  · have hm := may_yes c
    have hb := first_bd s d h0
    go_enter Try.func12, Try.ntmps12
    go_wp2_with (first
      | (go_at_call 24; refine (rmay_any _ _).mono ?_; rintro e w' ⟨rfl, rfl⟩)
      | (go_at_call 18; refine (rgen_any _ h0 h1 _).mono ?_; rintro e w' ⟨rfl, rfl⟩))
    go_loop [5] (fun g => ∃ m : Int, firstI s d ≤ m ∧ m ≤ s / 2 ∧ g = .int .u64 m) (fun g => (intOf g).toNat)
    case atStart => exact ⟨_, hb.2, Int.le_refl _, rfl⟩
    case round =>
      obtain ⟨m, hm1, hm2, rfl⟩ := hrel
      by_cases hlt : firstI s d < m
      · have hw := wstep c hlt hm2
        have hz : 0 < m := by omega
        go_wp2_with (go_at_call 25; refine (rwhole_any _ _ _ h0 h1 (by omega) (by omega) (by omega) (by omega) _).mono ?_; rintro e w' ⟨rfl, rfl⟩)
        go_round
        case rel => exact ⟨m - 1, by omega, by omega, rfl⟩
        case measure => simp [intOf]; omega
      · by_cases hz : 0 < m
        · have hw := wstop c (show firstI s d = m by omega) hz
          go_wp2_with (go_at_call 25; refine (rwhole_any _ _ _ h0 h1 (by omega) (by omega) (by omega) (by omega) _).mono ?_; rintro e w' ⟨rfl, rfl⟩)
          go_ret
          exact ⟨ret_int (show m = firstI s d by omega), rfl⟩
        · go_wp2
          go_ret
          exact ⟨ret_int (show m = firstI s d by omega), rfl⟩
  · have hm := may_no c
    go_enter Try.func12, Try.ntmps12
    go_wp2_with (go_at_call 24; refine (rmay_any _ _).mono ?_; rintro e w' ⟨rfl, rfl⟩)
    go_ret
    exact ⟨ret_int (first_no c), rfl⟩

set_option maxHeartbeats 400000 in
set_option maxRecDepth 100000 in
theorem first_any (s d : Int) (h0 : 0 ≤ s) (h1 : s ≤ 18446744073709551615) (w : World) :
    Calls Try.prog 11 #[.int .u64 s, .int .i64 d] w fun e w' => e = .returned (.int .u64 (firstI s d)) ∧ w = w' := by
  by_cases c : 2 ≤ d ∧ d ≤ 16
  · have hm := may_yes c
    have hb := first_bd s d h0
    go_enter Try.func11, Try.ntmps11
    go_wp2
    refine wp_scope_jumps 0 (fun a' w' => w = w' ∧ ∃ (m : Int) (u9 u10 u11 u12 u13 u14 u15 u16 u17 u18 u19 u20 u21 u22 : Value), a' = { tmps := #[.int .u64 s, .int .i64 d, undef, undef, .int .u64 0, .int .u64 m, .int .i64 d, .bool true, .bool false, u9, u10, u11, u12, u13, u14, u15, u16, u17, u18, u19, u20, u21, u22], defers := [] } ∧ firstI s d ≤ m ∧ m ≤ s / 2) (fun a' _ => (intOf (a'.tmps.getD 5 undef)).toNat) rfl ?_ ?_
    · go_wp2_with (first
        | (go_at_call 22; refine (may_any _ _).mono ?_; rintro e w' ⟨rfl, rfl⟩)
        | (go_at_call 14; refine (gen_any _ _).mono ?_; rintro e w' ⟨rfl, rfl⟩))
      go_step3
      by_cases hlt : firstI s d < s / 2
      · have hw := first_step c hlt (Int.le_refl _)
        have hz : 0 < s / 2 := by omega
        go_wp2_with (go_at_call 9; refine (kept_any _ _ _ h0 h1 (by omega) (by omega) _).mono ?_; rintro e w' ⟨rfl, rfl⟩)
        go_step3
        exact ⟨rfl, rfl, s / 2 - 1, _, _, _, _, _, _, _, _, _, _, _, _, _, _, rfl, by omega, by omega⟩
      · by_cases hz : 0 < s / 2
        · have hw := first_stop c (show firstI s d = s / 2 by omega) hz
          go_wp2_with (go_at_call 9; refine (kept_any _ _ _ h0 h1 (by omega) (by omega) _).mono ?_; rintro e w' ⟨rfl, rfl⟩)
          simp only [Exit.jump]
          go_ret
          exact ⟨ret_int (show s / 2 = firstI s d by omega), rfl⟩
        · go_wp2
          simp only [Exit.jump]
          go_ret
          exact ⟨ret_int (show s / 2 = firstI s d by omega), rfl⟩
    · rintro a' w' ⟨rfl, m, u9, u10, u11, u12, u13, u14, u15, u16, u17, u18, u19, u20, u21, u22, rfl, hm1, hm2⟩
      by_cases hlt : firstI s d < m
      · have hw := first_step c hlt hm2
        have hz : 0 < m := by omega
        go_wp2_with (go_at_call 9; refine (kept_any _ _ _ h0 h1 (by omega) (by omega) _).mono ?_; rintro e w' ⟨rfl, rfl⟩)
        go_step3
        refine ⟨rfl, ⟨rfl, m - 1, _, _, _, _, _, _, _, _, _, _, _, _, _, _, rfl, by omega, by omega⟩, ?_⟩
        simp [intOf]; omega
      · by_cases hz : 0 < m
        · have hw := first_stop c (show firstI s d = m by omega) hz
          go_wp2_with (go_at_call 9; refine (kept_any _ _ _ h0 h1 (by omega) (by omega) _).mono ?_; rintro e w' ⟨rfl, rfl⟩)
          simp only [Exit.jump]
          go_ret
          exact ⟨ret_int (show m = firstI s d by omega), rfl⟩
        · go_wp2
          simp only [Exit.jump]
          go_ret
          exact ⟨ret_int (show m = firstI s d by omega), rfl⟩
  · have hm := may_no c
    go_enter Try.func11, Try.ntmps11
    go_wp2
    go_step3
    go_wp2_with (go_at_call 22; refine (may_any _ _).mono ?_; rintro e w' ⟨rfl, rfl⟩)
    rw [Exit.noGoto_ret]
    go_ret
    exact ⟨ret_int (first_no c), rfl⟩

def sinceI (s g : Int) : Int := if g ≤ s / 2 then s / 2 - g else 0
theorem since_yes {s g : Int} (c : g ≤ s / 2) : s / 2 - g = sinceI s g := by unfold sinceI; rw [if_pos c]
theorem since_no {s g : Int} (c : ¬ g ≤ s / 2) : 0 = sinceI s g := by unfold sinceI; rw [if_neg c]

set_option maxHeartbeats 400000 in
theorem since_any (s g : Int) (h0 : 0 ≤ s) (h1 : s ≤ 18446744073709551615) (h2 : 0 ≤ g) (h3 : g ≤ 18446744073709551615) (w : World) :
    Calls Try.prog 20 #[.int .u64 s, .int .u64 g] w fun e w' => e = .returned (.int .u64 (sinceI s g)) ∧ w = w' := by
  by_cases c : g ≤ s / 2
  · go_enter Try.func20, Try.ntmps20
    go_wp2_with (go_at_call 14; refine (gen_any _ _).mono ?_; rintro e w' ⟨rfl, rfl⟩)
    go_ret
    exact ⟨ret_int (since_yes c), rfl⟩
  · go_enter Try.func20, Try.ntmps20
    go_wp2_with (go_at_call 14; refine (gen_any _ _).mono ?_; rintro e w' ⟨rfl, rfl⟩)
    go_ret
    exact ⟨ret_int (since_no (by omega)), rfl⟩

set_option maxHeartbeats 400000 in
theorem rsince_any (s g : Int) (h0 : 0 ≤ s) (h1 : s ≤ 18446744073709551615) (h2 : 0 ≤ g) (h3 : g ≤ 18446744073709551615) (w : World) :
    Calls Try.prog 21 #[.int .u64 s, .int .u64 g] w fun e w' => e = .returned (.int .u64 (sinceI s g)) ∧ w = w' := by
  by_cases c : g ≤ s / 2
  · go_enter Try.func21, Try.ntmps21
    go_wp2_with (go_at_call 18; refine (rgen_any _ h0 h1 _).mono ?_; rintro e w' ⟨rfl, rfl⟩)
    go_ret
    exact ⟨ret_int (since_yes c), rfl⟩
  · go_enter Try.func21, Try.ntmps21
    go_wp2_with (go_at_call 18; refine (rgen_any _ h0 h1 _).mono ?_; rintro e w' ⟨rfl, rfl⟩)
    go_ret
    exact ⟨ret_int (since_no (by omega)), rfl⟩

/- What taking a sequence makes of it: a held one, 19 (ErrBusy); else the next one, 0 (OK). -/
set_option maxHeartbeats 400000 in
theorem take_held (s : Int) (h0 : 0 ≤ s) (h1 : s ≤ 18446744073709551615) (c : heldB s = true) (w : World) :
    Calls Try.prog 17 #[.int .u64 s] w fun e w' => e = .returned (.tuple #[.int .u64 0, .int .i64 19]) ∧ w = w' := by
  go_enter Try.func17, Try.ntmps17
  go_wp2_with (go_at_call 15; refine (held_any _ h0 h1 _).mono ?_; rintro e w' ⟨rfl, rfl⟩)
  go_ret2
  exact ⟨rfl, rfl⟩
set_option maxHeartbeats 400000 in
theorem take_free (s : Int) (h0 : 0 ≤ s) (h1 : s ≤ 18446744073709551614) (c : heldB s = false) (w : World) :
    Calls Try.prog 17 #[.int .u64 s] w fun e w' => e = .returned (.tuple #[.int .u64 (s + 1), .int .i64 0]) ∧ w = w' := by
  go_enter Try.func17, Try.ntmps17
  go_wp2_with (go_at_call 15; refine (held_any _ h0 (by omega) _).mono ?_; rintro e w' ⟨rfl, rfl⟩)
  go_ret2
  exact ⟨rfl, rfl⟩
set_option maxHeartbeats 400000 in
theorem give_free (s : Int) (h0 : 0 ≤ s) (h1 : s ≤ 18446744073709551615) (c : heldB s = false) (w : World) :
    Calls Try.prog 16 #[.int .u64 s] w fun e w' => e = .returned (.tuple #[.int .u64 0, .int .i64 18]) ∧ w = w' := by
  go_enter Try.func16, Try.ntmps16
  go_wp2_with (go_at_call 15; refine (held_any _ h0 h1 _).mono ?_; rintro e w' ⟨rfl, rfl⟩)
  go_ret2
  exact ⟨rfl, rfl⟩
set_option maxHeartbeats 400000 in
theorem give_held (s : Int) (h0 : 0 ≤ s) (h1 : s ≤ 18446744073709551614) (c : heldB s = true) (w : World) :
    Calls Try.prog 16 #[.int .u64 s] w fun e w' => e = .returned (.tuple #[.int .u64 (s + 1), .int .i64 0]) ∧ w = w' := by
  go_enter Try.func16, Try.ntmps16
  go_wp2_with (go_at_call 15; refine (held_any _ h0 (by omega) _).mono ?_; rintro e w' ⟨rfl, rfl⟩)
  go_ret2
  exact ⟨rfl, rfl⟩
theorem wrap_top : IntKind.u64.wrap (18446744073709551615 + 1) = 0 := by decide +kernel
set_option maxHeartbeats 400000 in
theorem give_top (w : World) :
    Calls Try.prog 16 #[.int .u64 18446744073709551615] w fun e w' => e = .returned (.tuple #[.int .u64 0, .int .i64 10]) ∧ w = w' := by
  have c : heldB 18446744073709551615 = true := held_yes (by decide +kernel)
  have k : (IntKind.u64.wrap 18446744073709551616 == 0) = true := by decide +kernel
  go_enter Try.func16, Try.ntmps16
  go_wp2_with (go_at_call 15; refine (held_any _ (by omega) (by omega) _).mono ?_; rintro e w' ⟨rfl, rfl⟩)
  go_ret2
  exact ⟨rfl, rfl⟩

set_option maxHeartbeats 400000 in
theorem awake_any (w : World) : Calls Try.prog 13 #[] w fun e w' => e = .returned (.bool true) ∧ w = w' := by
  have k1 : heldB 7 = true := by decide +kernel
  have k2 : firstI 7 3 = 2 := by decide +kernel
  have k3 : keptB 7 2 3 = true := by decide +kernel
  have k4 : keptB 7 3 3 = true := by decide +kernel
  have k5 : keptB 7 1 3 = false := by decide +kernel
  have k6 : keptB 7 4 3 = false := by decide +kernel
  have k7 : firstI 8 3 = 2 := by decide +kernel
  go_enter Try.func13, Try.ntmps13
  go_wp2_with (first
    | (go_at_call 14; refine (gen_any _ _).mono ?_; rintro e w' ⟨rfl, rfl⟩)
    | (go_at_call 15; refine (held_any _ (by omega) (by omega) _).mono ?_; rintro e w' ⟨rfl, rfl⟩)
    | (go_at_call 11; refine (first_any _ _ (by omega) (by omega) _).mono ?_; rintro e w' ⟨rfl, rfl⟩)
    | (go_at_call 9; refine (kept_any _ _ _ (by omega) (by omega) (by omega) (by omega) _).mono ?_; rintro e w' ⟨rfl, rfl⟩))
  go_ret
  exact ⟨rfl, rfl⟩
end Go.Proofs.Ythdbkjmndmgddaa
