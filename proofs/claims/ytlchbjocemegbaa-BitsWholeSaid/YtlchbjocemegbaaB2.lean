/- The walk of BitsBack, joined. -/
import Derived.Test.YtlchbjocemegbaaB1
namespace Go.Proofs.Ytlchbjocemegbaa
open Go.RowKit Go.Shelf
attribute [local go_sem ↓] Go.wp_at_zero Go.wp_at_succ

set_option maxRecDepth 100000 in
set_option maxHeartbeats 4000000 in
theorem bitsBack_none (a l : Int) (x y : Nat) (z : Int) (hz : IntKind.i64.wrap (y : Int) = z)
    (hMay : Says 12 #[fld a l] (.bool false)) (hP : Says 21 #[fld a l, .int .u64 x, .int .u64 y] (.tuple #[.int .u64 0, .int .i64 10]))
    (hQ : Says 26 #[fld a l, .int .u64 x, .int .i64 z] (.tuple #[.int .u64 0, .int .i64 10])) (w : World) :
    Calls Try.prog 8 #[fld a l, .int .u64 x, .int .u64 y] w fun e w' => e = .returned (.bool true) ∧ Below w.heap.size w w' := by
  go_enter Try.func8, Try.ntmps8
  have hK := keep_fld0 w (.int .i64 a) (.int .i64 l) 23
  go_wp2_with fail
  refine (hP _).mono ?_
  rintro e w1 ⟨rfl, hbw⟩
  have hK := keep_fld hK hbw
  obtain ⟨k0, k1, _⟩ := id hK
  clear hbw
  go_wp2_with fail
  refine (hMay _).mono ?_
  rintro e w1 ⟨rfl, hbw⟩
  have hK := keep_fld hK hbw
  obtain ⟨k0, k1, _⟩ := id hK
  clear hbw
  go_wp2_with fail
  go_quiet (fail)
  have hK := held_drewN hK nq
  obtain ⟨k0, k1, _⟩ := id hK
  go_wp2_with fail
  refine (hQ _).mono ?_
  rintro e w1 ⟨rfl, hbw⟩
  have hK := keep_fld hK hbw
  obtain ⟨k0, k1, _⟩ := id hK
  clear hbw
  go_wp2_with fail
  go_quiet (fail)
  have hK := held_drewN hK nq
  obtain ⟨k0, k1, _⟩ := id hK
  go_wp2_with fail
  refine (hMay _).mono ?_
  rintro e w1 ⟨rfl, hbw⟩
  have hK := keep_fld hK hbw
  obtain ⟨k0, k1, _⟩ := id hK
  clear hbw
  go_wp2_with fail
  refine (awake_any _).mono ?_
  rintro e w1 ⟨rfl, hbw⟩
  have hK := keep_fld hK hbw
  go_wp2
  go_ret
  exact ⟨rfl, hK.2.2.1⟩

theorem bitsBack_walk (a l : Int) (x y : Nat) (hx : x < 18446744073709551616) (hy : y < 18446744073709551616) (w : World) :
    Calls Try.prog 8 #[fld a l, .int .u64 x, .int .u64 y] w fun e w' => e = .returned (.bool true) ∧ Below w.heap.size w w' := by
  have hz := i64of_int y
  have hu := u64of_i64of y hy
  cases hm : mayB a l with
  | false =>
    exact bitsBack_none a l x y _ hz (fun w => hm ▸ may_below a l w) (fun w => put_no a l x y (by simp [hm]) w) (fun w => sput_no a l x _ hx (by simp [sputOk, hm]) w) w
  | true =>
    obtain ⟨A, L, rfl, rfl, h1, h2, h3, h4⟩ := may_of hm
    have eM : maxF A L = maxW L := by simp [maxF, hm]
    have eG : getF A L x = getW A L x := by simp [getF, hm]
    have hMay : Says 12 #[fld A L] (.bool true) := fun w => hm ▸ may_below A L w
    have hMax : Says 14 #[fld A L] (.int .u64 (maxW L)) := fun w => eM ▸ max_any A L w
    have hG : Says 16 #[fld A L, .int .u64 x] (.int .u64 (getW A L x)) := fun w => eG ▸ get_any A L x hx w
    have hS : Says 18 #[fld A L, .int .u64 x] (.int .i64 (sgnF A L x)) := fun w => signed_any A L x w
    have hPG : Says 21 #[fld A L, .int .u64 x, .int .u64 (getW A L x)] (.tuple #[.int .u64 x, .int .i64 0]) := fun w => by
      have h := put_yes A L x (getW A L x) hx hm (by rw [eM]; exact get_le _ _ _ h3) w
      rw [setF, Int.toNat_natCast, Int.toNat_natCast, set_get h4 hx] at h
      exact h
    have eS : setF A L x (u64of (sgnF A L x)) = x := by
      simp only [setF, sgnF, hm, if_pos, Int.toNat_natCast]
      rw [u64of_i64of _ (sgnW_lt _ _ _), set_sgn h4 hx]
    have hPS : Says 26 #[fld A L, .int .u64 x, .int .i64 (sgnF A L x)] (.tuple #[.int .u64 x, .int .i64 0]) := fun w => by
      have h := sput_yes A L x (sgnF A L x) hx (by simp [sputOk, hm, eS]) w
      rw [eS] at h
      exact h
    have eP : setF A L x y = setW A L x y := by simp [setF]
    have hO := set_only_int (a := A) (l := L) (w := x) (x := y) h4 hx
    by_cases hp : y ≤ maxW L
    · have hd : decide (y ≤ maxW L) = true := decide_eq_true hp
      have hP : Says 21 #[fld A L, .int .u64 x, .int .u64 y] (.tuple #[.int .u64 (setW A L x y), .int .i64 0]) := fun w => eP ▸ put_yes A L x y hx hm (by rw [eM]; exact hp) w
      have hGP : Says 16 #[fld A L, .int .u64 (setW A L x y)] (.int .u64 y) := fun w => by
        have h := get_any A L (setW A L x y) (setW_lt _ _ _ _) w
        rw [show getF A L (setW A L x y) = y by simp only [getF, hm, if_pos, Int.toNat_natCast]; exact get_set h4 hp] at h
        exact h
      cases hs : sputOk A L x (i64of y) with
      | true =>
        have hQ : Says 26 #[fld A L, .int .u64 x, .int .i64 (i64of y)] (.tuple #[.int .u64 (setW A L x y), .int .i64 0]) := fun w => by
          have h := sput_yes A L x (i64of y) hx hs w
          rw [hu, eP] at h
          exact h
        have hSQ : Says 18 #[fld A L, .int .u64 (setW A L x y)] (.int .i64 (i64of y)) := fun w => by
          have h := signed_any A L (setW A L x y) w
          rw [show sgnF A L (setW A L x y) = i64of y by have := hs; simp only [sputOk, hm, Bool.true_and, beq_iff_eq, hu, eP] at this; exact this] at h
          exact h
        exact bitsBack_YY A L x y _ _ _ _ _ _ h1 hz hMay hMax hP hQ hGP hO hSQ hO hG hS hPG hPS hd w
      | false => exact bitsBack_YN A L x y _ 0 _ _ _ _ h1 hz hMay hMax hP (fun w => sput_no A L x _ hx hs w) hGP hO hG hS hPG hPS hd w
    · have hd : decide (y ≤ maxW L) = false := decide_eq_false hp
      have hP : Says 21 #[fld A L, .int .u64 x, .int .u64 y] (.tuple #[.int .u64 (0 : Nat), .int .i64 10]) := fun w => put_no A L x y (fun _ => by rw [eM]; omega) w
      cases hs : sputOk A L x (i64of y) with
      | true =>
        have hQ : Says 26 #[fld A L, .int .u64 x, .int .i64 (i64of y)] (.tuple #[.int .u64 (setW A L x y), .int .i64 0]) := fun w => by
          have h := sput_yes A L x (i64of y) hx hs w
          rw [hu, eP] at h
          exact h
        have hSQ : Says 18 #[fld A L, .int .u64 (setW A L x y)] (.int .i64 (i64of y)) := fun w => by
          have h := signed_any A L (setW A L x y) w
          rw [show sgnF A L (setW A L x y) = i64of y by have := hs; simp only [sputOk, hm, Bool.true_and, beq_iff_eq, hu, eP] at this; exact this] at h
          exact h
        exact bitsBack_NY A L x y 0 _ _ _ _ _ h1 hz hMay hMax hP hQ hSQ hO hG hS hPG hPS hd w
      | false => exact bitsBack_NN A L x y 0 0 _ _ _ _ h1 hz hMay hMax hP (fun w => sput_no A L x _ hx hs w) hG hS hPG hPS hd w
end Go.Proofs.Ytlchbjocemegbaa
