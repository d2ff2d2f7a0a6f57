/- The walks of the laws of layer 7 (seq) that take numbers alone: each returns true, whatever the numbers are. -/
import Derived.Test.YthdbkjmndmgddaaSeqA
namespace Go.Proofs.Ythdbkjmndmgddaa
open Go.RowKit

theorem u64_bd {a : Int} (h : (Lit.int .u64 a).wf = true) : 0 ≤ a ∧ a ≤ 18446744073709551615 := by
  simp [Lit.wf, IntKind.min, IntKind.max, IntKind.bits, IntKind.signed] at h; omega
theorem i64_bd {a : Int} (h : (Lit.int .i64 a).wf = true) : -9223372036854775808 ≤ a ∧ a ≤ 9223372036854775807 := by
  simp [Lit.wf, IntKind.min, IntKind.max, IntKind.bits, IntKind.signed] at h; omega

set_option maxHeartbeats 400000 in
theorem seqKept_walk (s g d : Int) (h0 : 0 ≤ s) (h1 : s ≤ 18446744073709551615) (h2 : 0 ≤ g) (h3 : g ≤ 18446744073709551615) (w : World) :
    Calls Try.prog 3 #[.int .u64 s, .int .u64 g, .int .i64 d] w fun e w' => e = .returned (.bool true) ∧ w = w' := by
  go_enter Try.func3, Try.ntmps3
  go_wp2_with (first
    | (go_at_call 9; refine (kept_any _ _ _ h0 h1 h2 h3 _).mono ?_; rintro e w' ⟨rfl, rfl⟩)
    | (go_at_call 10; refine (rkept_any _ _ _ h0 h1 h2 h3 _).mono ?_; rintro e w' ⟨rfl, rfl⟩)
    | (go_at_call 11; refine (first_any _ _ h0 h1 _).mono ?_; rintro e w' ⟨rfl, rfl⟩)
    | (go_at_call 12; refine (rfirst_any _ _ h0 h1 _).mono ?_; rintro e w' ⟨rfl, rfl⟩)
    | (go_at_call 13; refine (awake_any _).mono ?_; rintro e w' ⟨rfl, rfl⟩))
  go_ret
  exact ⟨rfl, rfl⟩

set_option maxHeartbeats 400000 in
theorem seqTells_walk (s g : Int) (h0 : 0 ≤ s) (h1 : s ≤ 18446744073709551615) (h2 : 0 ≤ g) (h3 : g ≤ 18446744073709551615) (w : World) :
    Calls Try.prog 7 #[.int .u64 s, .int .u64 g] w fun e w' => e = .returned (.bool true) ∧ w = w' := by
  by_cases c : s % 2 = 1
  · have hh := held_yes c
    by_cases c2 : s = 18446744073709551615
    · subst c2
      clear c
      go_enter Try.func7, Try.ntmps7
      go_wp2_with (first
        | (go_at_call 14; refine (gen_any _ _).mono ?_; rintro e w' ⟨rfl, rfl⟩)
        | (go_at_call 18; refine (rgen_any _ h0 h1 _).mono ?_; rintro e w' ⟨rfl, rfl⟩)
        | (go_at_call 15; refine (held_any _ h0 h1 _).mono ?_; rintro e w' ⟨rfl, rfl⟩)
        | (go_at_call 19; refine (rheld_any _ h0 h1 _).mono ?_; rintro e w' ⟨rfl, rfl⟩)
        | (go_at_call 20; refine (since_any _ _ h0 h1 h2 h3 _).mono ?_; rintro e w' ⟨rfl, rfl⟩)
        | (go_at_call 21; refine (rsince_any _ _ h0 h1 h2 h3 _).mono ?_; rintro e w' ⟨rfl, rfl⟩)
        | (go_at_call 17; refine (take_held _ h0 h1 hh _).mono ?_; rintro e w' ⟨rfl, rfl⟩)
        | (go_at_call 16; refine (give_top _).mono ?_; rintro e w' ⟨rfl, rfl⟩)
        | (go_at_call 13; refine (awake_any _).mono ?_; rintro e w' ⟨rfl, rfl⟩))
      go_ret
      exact ⟨rfl, rfl⟩
    · have e1 : (s % 2 == 0) = false := by simp; omega
      have e2 : (s == 18446744073709551615) = false := by simp; omega
      clear c
      go_enter Try.func7, Try.ntmps7
      go_wp2_with (first
        | (go_at_call 14; refine (gen_any _ _).mono ?_; rintro e w' ⟨rfl, rfl⟩)
        | (go_at_call 18; refine (rgen_any _ h0 h1 _).mono ?_; rintro e w' ⟨rfl, rfl⟩)
        | (go_at_call 15; refine (held_any _ h0 h1 _).mono ?_; rintro e w' ⟨rfl, rfl⟩)
        | (go_at_call 19; refine (rheld_any _ h0 h1 _).mono ?_; rintro e w' ⟨rfl, rfl⟩)
        | (go_at_call 20; refine (since_any _ _ h0 h1 h2 h3 _).mono ?_; rintro e w' ⟨rfl, rfl⟩)
        | (go_at_call 21; refine (rsince_any _ _ h0 h1 h2 h3 _).mono ?_; rintro e w' ⟨rfl, rfl⟩)
        | (go_at_call 17; refine (take_held _ h0 h1 hh _).mono ?_; rintro e w' ⟨rfl, rfl⟩)
        | (go_at_call 16; refine (give_held _ h0 (by omega) hh _).mono ?_; rintro e w' ⟨rfl, rfl⟩)
        | (go_at_call 13; refine (awake_any _).mono ?_; rintro e w' ⟨rfl, rfl⟩))
      go_ret
      exact ⟨rfl, rfl⟩
  · have hh := held_no c
    have e1 : (s % 2 == 0) = true := by simp; omega
    have h1' : s ≤ 18446744073709551614 := by omega
    go_enter Try.func7, Try.ntmps7
    go_wp2_with (first
      | (go_at_call 14; refine (gen_any _ _).mono ?_; rintro e w' ⟨rfl, rfl⟩)
      | (go_at_call 18; refine (rgen_any _ h0 h1 _).mono ?_; rintro e w' ⟨rfl, rfl⟩)
      | (go_at_call 15; refine (held_any _ h0 h1 _).mono ?_; rintro e w' ⟨rfl, rfl⟩)
      | (go_at_call 19; refine (rheld_any _ h0 h1 _).mono ?_; rintro e w' ⟨rfl, rfl⟩)
      | (go_at_call 20; refine (since_any _ _ h0 h1 h2 h3 _).mono ?_; rintro e w' ⟨rfl, rfl⟩)
      | (go_at_call 21; refine (rsince_any _ _ h0 h1 h2 h3 _).mono ?_; rintro e w' ⟨rfl, rfl⟩)
      | (go_at_call 17; refine (take_free _ h0 h1' hh _).mono ?_; rintro e w' ⟨rfl, rfl⟩)
      | (go_at_call 16; refine (give_free _ h0 h1 hh _).mono ?_; rintro e w' ⟨rfl, rfl⟩)
      | (go_at_call 13; refine (awake_any _).mono ?_; rintro e w' ⟨rfl, rfl⟩))
    go_ret
    exact ⟨rfl, rfl⟩


theorem held_next {s : Int} (c : heldB s = false) : heldB (s + 1) = true := by
  unfold heldB at *; rw [decide_eq_false_iff_not] at c; apply decide_eq_true; omega
theorem held_even {s : Int} (c : heldB s = false) : s % 2 = 0 := by
  unfold heldB at *; rw [decide_eq_false_iff_not] at c; omega
theorem held_next2 {s : Int} (c : heldB s = false) : heldB (s + 1 + 1) = false := by
  unfold heldB at *; rw [decide_eq_false_iff_not] at c; apply decide_eq_false; omega

set_option maxHeartbeats 400000 in
theorem seqTurns_walk (s : Int) (h0 : 0 ≤ s) (h1 : s ≤ 18446744073709551615) (w : World) :
    Calls Try.prog 8 #[.int .u64 s] w fun e w' => e = .returned (.bool true) ∧ w = w' := by
  cases hh : heldB s with
  | true =>
    go_enter Try.func8, Try.ntmps8
    go_wp2_with (first
      | (go_at_call 17; refine (take_held _ h0 h1 hh _).mono ?_; rintro e w' ⟨rfl, rfl⟩)
      | (go_at_call 15; refine (held_any _ h0 h1 _).mono ?_; rintro e w' ⟨rfl, rfl⟩)
      | (go_at_call 13; refine (awake_any _).mono ?_; rintro e w' ⟨rfl, rfl⟩))
    go_ret
    exact ⟨rfl, rfl⟩
  | false =>
    have hs := held_even hh
    have h1' : s ≤ 18446744073709551614 := by omega
    have hn := held_next hh
    have hn2 := held_next2 hh
    have q1 : ((s + 1) / 2 != s / 2) = false := by simp; omega
    by_cases c : s = 18446744073709551614
    · subst c
      clear hs hn2
      go_enter Try.func8, Try.ntmps8
      go_wp2_with fail
      refine (take_free _ h0 h1' hh _).mono ?_; rintro e w' ⟨rfl, rfl⟩
      go_wp2_with fail
      refine (take_held _ (by omega) (by omega) hn _).mono ?_; rintro e w' ⟨rfl, rfl⟩
      go_wp2_with (first
        | (go_at_call 15; refine (held_any _ (by omega) (by omega) _).mono ?_; rintro e w' ⟨rfl, rfl⟩)
        | (go_at_call 14; refine (gen_any _ _).mono ?_; rintro e w' ⟨rfl, rfl⟩)
        | (go_at_call 16; refine (give_top _).mono ?_; rintro e w' ⟨rfl, rfl⟩)
        | (go_at_call 13; refine (awake_any _).mono ?_; rintro e w' ⟨rfl, rfl⟩))
      go_ret
      exact ⟨rfl, rfl⟩
    · have q2 : ((s + 1 + 1) / 2 == s / 2 + 1) = true := by simp; omega
      have q3 : sinceI (s + 1 + 1) (s / 2) = 1 := by rw [← since_yes (by omega)]; omega
      clear hs
      go_enter Try.func8, Try.ntmps8
      go_wp2_with fail
      refine (take_free _ h0 h1' hh _).mono ?_; rintro e w' ⟨rfl, rfl⟩
      go_wp2_with fail
      refine (take_held _ (by omega) (by omega) hn _).mono ?_; rintro e w' ⟨rfl, rfl⟩
      go_wp2_with (first
        | (go_at_call 15; refine (held_any _ (by omega) (by omega) _).mono ?_; rintro e w' ⟨rfl, rfl⟩)
        | (go_at_call 14; refine (gen_any _ _).mono ?_; rintro e w' ⟨rfl, rfl⟩)
        | (go_at_call 16; refine (give_held _ (by omega) (by omega) hn _).mono ?_; rintro e w' ⟨rfl, rfl⟩)
        | (go_at_call 20; refine (since_any _ _ (by omega) (by omega) (by omega) (by omega) _).mono ?_; rintro e w' ⟨rfl, rfl⟩)
        | (go_at_call 13; refine (awake_any _).mono ?_; rintro e w' ⟨rfl, rfl⟩))
      go_ret
      exact ⟨rfl, rfl⟩

theorem kept_iff {s g d : Int} (c : 2 ≤ d ∧ d ≤ 16) (hg : 0 ≤ g) : keptB s g d = true ↔ firstI s d ≤ g ∧ g ≤ s / 2 := by
  unfold keptB firstI; rw [if_pos c]; simp; split <;> omega
theorem kept_iff' {s g d : Int} (c : 2 ≤ d ∧ d ≤ 16) (hg : 0 ≤ g) : keptB s g d = decide (firstI s d ≤ g ∧ g ≤ s / 2) := by
  rw [Bool.eq_iff_iff, kept_iff c hg]; simp
theorem first_most {s d : Int} (c : 2 ≤ d ∧ d ≤ 16) : s / 2 - firstI s d < d - s % 2 ∧ (firstI s d ≠ 0 → s / 2 - firstI s d + 1 = d - s % 2) := by
  unfold firstI; rw [if_pos c]; split <;> omega


theorem some_1 {s d : Int} (c : 2 ≤ d ∧ d ≤ 16) (hh : s % 2 = 1) :
    decide (s / 2 - firstI s d < d - 1) = true ∧ ((firstI s d == 0) = true ∨ ((firstI s d == 0) = false ∧ (s / 2 - firstI s d + 1 == d - 1) = true)) := by
  obtain ⟨hm1, hm2⟩ := first_most (s := s) c
  refine ⟨by simp; omega, ?_⟩
  by_cases hz : firstI s d = 0
  · exact .inl (by simpa using hz)
  · have := hm2 hz
    exact .inr ⟨by simpa using hz, by simp; omega⟩
theorem some_0 {s d : Int} (c : 2 ≤ d ∧ d ≤ 16) (hh : ¬ s % 2 = 1) :
    decide (s / 2 - firstI s d < d) = true ∧ ((firstI s d == 0) = true ∨ ((firstI s d == 0) = false ∧ (s / 2 - firstI s d + 1 == d) = true)) := by
  obtain ⟨hm1, hm2⟩ := first_most (s := s) c
  refine ⟨by simp; omega, ?_⟩
  by_cases hz : firstI s d = 0
  · exact .inl (by simpa using hz)
  · have := hm2 hz
    exact .inr ⟨by simpa using hz, by simp; omega⟩
theorem some_g {s d g : Int} (c : 2 ≤ d ∧ d ≤ 16) (h2 : 0 ≤ g) :
    (keptB s g d = true ∧ decide (firstI s d ≤ g) = true ∧ decide (g ≤ s / 2) = true) ∨ (keptB s g d = false ∧ decide (firstI s d ≤ g) = true ∧ decide (g ≤ s / 2) = false) ∨ (keptB s g d = false ∧ decide (firstI s d ≤ g) = false) := by
  have k2 := kept_iff' (s := s) c h2
  by_cases a1 : firstI s d ≤ g
  · by_cases a2 : g ≤ s / 2
    · exact .inl ⟨by rw [k2]; simp; omega, by simpa using a1, by simpa using a2⟩
    · exact .inr (.inl ⟨by rw [k2]; simp; omega, by simpa using a1, by simpa using a2⟩)
  · exact .inr (.inr ⟨by rw [k2]; simp; omega, by simpa using a1⟩)

set_option maxHeartbeats 4000000 in
theorem seqSome_walk (s d g : Int) (h0 : 0 ≤ s) (h1 : s ≤ 18446744073709551615) (h2 : 0 ≤ g) (h3 : g ≤ 18446744073709551615) (w : World) :
    Calls Try.prog 4 #[.int .u64 s, .int .i64 d, .int .u64 g] w fun e w' => e = .returned (.bool true) ∧ w = w' := by
  by_cases c : 2 ≤ d ∧ d ≤ 16
  · have hb := first_bd s d h0
    have k1 : keptB s (s / 2) d = true := (kept_iff c (by omega)).2 ⟨hb.2, Int.le_refl _⟩
    have kg := some_g (s := s) c h2
    have b1 : decide (d < 2) = false := by simp; omega
    have b2 : decide (16 < d) = false := by simp; omega
    have b3 : decide (s / 2 < firstI s d) = false := by simp; omega
    by_cases hh : s % 2 = 1
    · have hx := held_yes hh
      obtain ⟨z1, z2⟩ := some_1 c hh
      clear hh
      rcases z2 with z2 | ⟨z2, z3⟩ <;> rcases kg with ⟨k2, k3, k4⟩ | ⟨k2, k3, k4⟩ | ⟨k2, k3⟩
      all_goals
        go_enter Try.func4, Try.ntmps4
        go_wp2_with (first
          | (go_at_call 9; refine (kept_any _ _ _ h0 h1 (by omega) (by omega) _).mono ?_; rintro e w' ⟨rfl, rfl⟩)
          | (go_at_call 11; refine (first_any _ _ h0 h1 _).mono ?_; rintro e w' ⟨rfl, rfl⟩)
          | (go_at_call 14; refine (gen_any _ _).mono ?_; rintro e w' ⟨rfl, rfl⟩)
          | (go_at_call 15; refine (held_any _ h0 h1 _).mono ?_; rintro e w' ⟨rfl, rfl⟩)
          | (go_at_call 13; refine (awake_any _).mono ?_; rintro e w' ⟨rfl, rfl⟩))
        go_ret
        exact ⟨rfl, rfl⟩
    · have hx := held_no hh
      obtain ⟨z1, z2⟩ := some_0 c hh
      clear hh
      rcases z2 with z2 | ⟨z2, z3⟩ <;> rcases kg with ⟨k2, k3, k4⟩ | ⟨k2, k3, k4⟩ | ⟨k2, k3⟩
      all_goals
        go_enter Try.func4, Try.ntmps4
        go_wp2_with (first
          | (go_at_call 9; refine (kept_any _ _ _ h0 h1 (by omega) (by omega) _).mono ?_; rintro e w' ⟨rfl, rfl⟩)
          | (go_at_call 11; refine (first_any _ _ h0 h1 _).mono ?_; rintro e w' ⟨rfl, rfl⟩)
          | (go_at_call 14; refine (gen_any _ _).mono ?_; rintro e w' ⟨rfl, rfl⟩)
          | (go_at_call 15; refine (held_any _ h0 h1 _).mono ?_; rintro e w' ⟨rfl, rfl⟩)
          | (go_at_call 13; refine (awake_any _).mono ?_; rintro e w' ⟨rfl, rfl⟩))
        go_ret
        exact ⟨rfl, rfl⟩
  · have k1 : keptB s g d = false := (kept_no s g d (by omega)).symm
    have k2 : firstI s d = 0 := (first_no c).symm
    by_cases c1 : d < 2
    · go_enter Try.func4, Try.ntmps4
      go_wp2_with (first
        | (go_at_call 9; refine (kept_any _ _ _ h0 h1 (by omega) (by omega) _).mono ?_; rintro e w' ⟨rfl, rfl⟩)
        | (go_at_call 11; refine (first_any _ _ h0 h1 _).mono ?_; rintro e w' ⟨rfl, rfl⟩)
        | (go_at_call 13; refine (awake_any _).mono ?_; rintro e w' ⟨rfl, rfl⟩))
      go_ret
      exact ⟨rfl, rfl⟩
    · have c2 : 16 < d := by omega
      go_enter Try.func4, Try.ntmps4
      go_wp2_with (first
        | (go_at_call 9; refine (kept_any _ _ _ h0 h1 (by omega) (by omega) _).mono ?_; rintro e w' ⟨rfl, rfl⟩)
        | (go_at_call 11; refine (first_any _ _ h0 h1 _).mono ?_; rintro e w' ⟨rfl, rfl⟩)
        | (go_at_call 13; refine (awake_any _).mono ?_; rintro e w' ⟨rfl, rfl⟩))
      go_ret
      exact ⟨rfl, rfl⟩

/-! The pair of numbers by value lies in a new block of its own behind the call. -/
theorem never_kept {s t g d : Int} (h : keptB s g d = false) (ht : s ≤ t) (hg : g ≤ s / 2) : keptB t g d = false := by
  unfold keptB at *; rw [decide_eq_false_iff_not] at *; omega
theorem first_mono {s t d : Int} (ht : s ≤ t) : firstI s d ≤ firstI t d := by
  unfold firstI; split
  · split <;> split <;> omega
  · omega

set_option maxHeartbeats 4000000 in
theorem seqNever_walk (s t d g : Int) (h0 : 0 ≤ s) (h1 : s ≤ 18446744073709551615) (t0 : 0 ≤ t) (t1 : t ≤ 18446744073709551615) (h2 : 0 ≤ g) (h3 : g ≤ 18446744073709551615) (w : World) :
    Calls Try.prog 5 #[.agg #[.int .u64 s, .int .u64 t], .int .i64 d, .int .u64 g] w fun e w' => e = .returned (.bool true) ∧ w.alloc (.cells #[.int .u64 s, .int .u64 t] 29) = w' := by
  by_cases c1 : t ≤ 18446744073709551615 - s
  · by_cases c2 : g ≤ s / 2
    · have b1 : decide (s / 2 < g) = false := by simp; omega
      have b2 : decide (18446744073709551615 - s < t) = false := by simp; omega
      have f1 := first_mono (s := s) (t := s + t) (d := d) (by omega)
      cases hk : keptB s g d with
      | true =>
        go_enter Try.func5, Try.ntmps5
        go_wp2_with (first
          | (go_at_call 9; refine (kept_any _ _ _ (by omega) (by omega) (by omega) (by omega) _).mono ?_; rintro e w' ⟨rfl, rfl⟩)
          | (go_at_call 11; refine (first_any _ _ (by omega) (by omega) _).mono ?_; rintro e w' ⟨rfl, rfl⟩)
          | (go_at_call 14; refine (gen_any _ _).mono ?_; rintro e w' ⟨rfl, rfl⟩)
          | (go_at_call 13; refine (awake_any _).mono ?_; rintro e w' ⟨rfl, rfl⟩))
        go_ret
        exact ⟨rfl, rfl⟩
      | false =>
        have hk2 := never_kept (t := s + t) hk (by omega) c2
        go_enter Try.func5, Try.ntmps5
        go_wp2_with (first
          | (go_at_call 9; refine (kept_any _ _ _ (by omega) (by omega) (by omega) (by omega) _).mono ?_; rintro e w' ⟨rfl, rfl⟩)
          | (go_at_call 11; refine (first_any _ _ (by omega) (by omega) _).mono ?_; rintro e w' ⟨rfl, rfl⟩)
          | (go_at_call 14; refine (gen_any _ _).mono ?_; rintro e w' ⟨rfl, rfl⟩)
          | (go_at_call 13; refine (awake_any _).mono ?_; rintro e w' ⟨rfl, rfl⟩))
        go_ret
        exact ⟨rfl, rfl⟩
    · have b1 : decide (s / 2 < g) = true := by simp; omega
      have b2 : decide (18446744073709551615 - s < t) = false := by simp; omega
      go_enter Try.func5, Try.ntmps5
      go_wp2_with (first
        | (go_at_call 14; refine (gen_any _ _).mono ?_; rintro e w' ⟨rfl, rfl⟩)
        | (go_at_call 13; refine (awake_any _).mono ?_; rintro e w' ⟨rfl, rfl⟩))
      go_ret
      exact ⟨rfl, rfl⟩
  · have b2 : decide (18446744073709551615 - s < t) = true := by simp; omega
    go_enter Try.func5, Try.ntmps5
    go_wp2_with (first
      | (go_at_call 14; refine (gen_any _ _).mono ?_; rintro e w' ⟨rfl, rfl⟩)
      | (go_at_call 13; refine (awake_any _).mono ?_; rintro e w' ⟨rfl, rfl⟩))
    go_ret
    exact ⟨rfl, rfl⟩
end Go.Proofs.Ythdbkjmndmgddaa
