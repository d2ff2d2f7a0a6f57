/- The walks of BitsGet, BitsPut, BitsSigned: true for every input. -/
import Derived.Test.YtlchbjocemegbaaM
namespace Go.Proofs.Ytlchbjocemegbaa
open Go.RowKit Go.Shelf
attribute [local go_sem ↓] Go.wp_at_zero Go.wp_at_succ

/-- What Put answers, and PutSigned. -/
def putF (a l : Int) (x y : Nat) : Nat × Int := if mayB a l = true ∧ y ≤ maxF a l then (setF a l x y, 0) else (0, 10)
def sputF (a l : Int) (x : Nat) (z : Int) : Nat × Int := if sputOk a l x z then (setF a l x (u64of z), 0) else (0, 10)
def pairV (r : Nat × Int) : Value := .tuple #[.int .u64 r.1, .int .i64 r.2]
theorem put_any (a l : Int) (x y : Nat) (hx : x < 18446744073709551616) (w : World) :
    Calls Try.prog 21 #[fld a l, .int .u64 x, .int .u64 y] w fun e w' => e = .returned (pairV (putF a l x y)) ∧ Below w.heap.size w w' := by
  by_cases c : mayB a l = true ∧ y ≤ maxF a l
  · rw [putF, if_pos c]; exact put_yes a l x y hx c.1 c.2 w
  · rw [putF, if_neg c]; exact put_no a l x y (fun h => Nat.lt_of_not_le fun h2 => c ⟨h, h2⟩) w
theorem rput_any (a l : Int) (x y : Nat) (hx : x < 18446744073709551616) (w : World) :
    Calls Try.prog 22 #[fld a l, .int .u64 x, .int .u64 y] w fun e w' => e = .returned (pairV (putF a l x y)) ∧ Below w.heap.size w w' := by
  by_cases c : mayB a l = true ∧ y ≤ maxF a l
  · rw [putF, if_pos c]; exact rput_yes a l x y hx c.1 c.2 w
  · rw [putF, if_neg c]; exact rput_no a l x y (fun h => Nat.lt_of_not_le fun h2 => c ⟨h, h2⟩) w
theorem sput_any (a l : Int) (x : Nat) (z : Int) (hx : x < 18446744073709551616) (w : World) :
    Calls Try.prog 26 #[fld a l, .int .u64 x, .int .i64 z] w fun e w' => e = .returned (pairV (sputF a l x z)) ∧ Below w.heap.size w w' := by
  cases c : sputOk a l x z
  · rw [sputF, c, if_neg (by decide)]; exact sput_no a l x z hx c w
  · rw [sputF, c, if_pos rfl]; exact sput_yes a l x z hx c w
theorem rsput_any (a l : Int) (x : Nat) (z : Int) (hx : x < 18446744073709551616) (w : World) :
    Calls Try.prog 27 #[fld a l, .int .u64 x, .int .i64 z] w fun e w' => e = .returned (pairV (sputF a l x z)) ∧ Below w.heap.size w w' := by
  cases c : sputOk a l x z
  · rw [sputF, c, if_neg (by decide)]; exact rsput_no a l x z hx c w
  · rw [sputF, c, if_pos rfl]; exact rsput_yes a l x z hx c w

/-- Two boxes of a field, and what lies below. -/
abbrev Two (w : World) (b c : Nat) (v0 v1 : Value) (W : World) : Prop :=
  W.cell? ⟨b, 0, none⟩ = some v0 ∧ W.cell? ⟨b, 1, none⟩ = some v1 ∧ W.cell? ⟨c, 0, none⟩ = some v0 ∧ W.cell? ⟨c, 1, none⟩ = some v1 ∧ Below w.heap.size w W ∧ b < W.heap.size ∧ c < W.heap.size ∧ w.heap.size ≤ W.heap.size
theorem keep2 {w W W' : World} {b c : Nat} {v0 v1 : Value} (h : Two w b c v0 v1 W) (hb : Below W.heap.size W W') : Two w b c v0 v1 W' := by
  obtain ⟨h0, h1, h2, h3, h4, h5, h6, h7⟩ := h
  have hs := hb.size
  exact ⟨(hb.cell (p := ⟨b, 0, none⟩) h5).trans h0, (hb.cell (p := ⟨b, 1, none⟩) h5).trans h1, (hb.cell (p := ⟨c, 0, none⟩) h6).trans h2, (hb.cell (p := ⟨c, 1, none⟩) h6).trans h3, h4.trans (hb.mono h7), by omega, by omega, by omega⟩
theorem two_drew {w W : World} {b c : Nat} {v0 v1 : Value} (h : Two w b c v0 v1 W) : Two w b c v0 v1 W.drew := ⟨h.1, h.2.1, h.2.2.1, h.2.2.2.1, h.2.2.2.2.1.drew, h.2.2.2.2.2⟩
theorem two_new {w W : World} {b : Nat} {v0 v1 : Value} (h : W.cell? ⟨b, 0, none⟩ = some v0 ∧ W.cell? ⟨b, 1, none⟩ = some v1 ∧ Below w.heap.size w W ∧ b < W.heap.size ∧ w.heap.size ≤ W.heap.size) (t : TypeId) :
    Two w b W.heap.size v0 v1 (W.alloc (.cells #[v0, v1] t)) := by
  have K := keep_fld h ((Below.refl _ _).alloc (Nat.le_refl _) (Obj.cells #[v0, v1] t))
  obtain ⟨k0, k1, _⟩ := keep_fld0 W v0 v1 t
  exact ⟨K.1, K.2.1, k0, k1, K.2.2.1, K.2.2.2.1, by simp, K.2.2.2.2⟩

set_option maxRecDepth 100000 in
set_option maxHeartbeats 2000000 in
theorem bitsGet_walk (a l : Int) (x : Nat) (hx : x < 18446744073709551616) (w : World) :
    Calls Try.prog 3 #[fld a l, .int .u64 x] w fun e w' => e = .returned (.bool true) ∧ Below w.heap.size w w' := by
  have e1 : (mayB a l == mayB a l) = true := by simp
  have e2 : (((maxF a l : Nat) : Int) == ((maxF a l : Nat) : Int)) = true := by simp
  have e3 : (((getF a l x : Nat) : Int) == ((getF a l x : Nat) : Int)) = true := by simp
  have e4 : (sgnF a l x == sgnF a l x) = true := by simp
  go_enter Try.func3, Try.ntmps3
  go_wp2_with fail
  refine (plain_any a l _).mono ?_
  rintro e w1 ⟨rfl, hb1⟩
  have T := two_new (keep_fld (keep_fld0 w (.int .i64 a) (.int .i64 l) 23) hb1) 25
  clear hb1
  go_wp2_with fail
  go_region_held3 (fun W => W.cell? ⟨w.heap.size, 0, none⟩ = some (.int .i64 a) ∧ W.cell? ⟨w.heap.size, 1, none⟩ = some (.int .i64 l) ∧ W.cell? ⟨w1.heap.size, 0, none⟩ = some (.int .i64 a) ∧ W.cell? ⟨w1.heap.size, 1, none⟩ = some (.int .i64 l) ∧ Below w.heap.size w W ∧ w.heap.size < W.heap.size ∧ w1.heap.size < W.heap.size ∧ w.heap.size ≤ W.heap.size)
    (first | exact keep2 (by assumption) hbw | exact two_drew T)
    (first
      | (go_at_call 12; refine (may_below _ _ _).mono ?_; rintro e w1 ⟨rfl, hbw⟩)
      | (go_at_call 13; refine (rmay_below _ _ _).mono ?_; rintro e w1 ⟨rfl, hbw⟩)
      | (go_at_call 14; refine (max_any _ _ _).mono ?_; rintro e w1 ⟨rfl, hbw⟩)
      | (go_at_call 15; refine (rmax_any _ _ _).mono ?_; rintro e w1 ⟨rfl, hbw⟩)
      | (go_at_call 16; refine (get_any _ _ _ hx _).mono ?_; rintro e w1 ⟨rfl, hbw⟩)
      | (go_at_call 17; refine (rget_any _ _ _ hx _).mono ?_; rintro e w1 ⟨rfl, hbw⟩)
      | (go_at_call 18; refine (signed_any _ _ _ _).mono ?_; rintro e w1 ⟨rfl, hbw⟩)
      | (go_at_call 19; refine (rsigned_any _ _ _ hx _).mono ?_; rintro e w1 ⟨rfl, hbw⟩)
      | (go_at_call 20; refine (awake_any _).mono ?_; rintro e w1 ⟨rfl, hbw⟩))
  go_wp2
  go_ret
  rename_i hHeld
  exact ⟨rfl, hHeld.2.2.2.2.1⟩

set_option maxRecDepth 100000 in
set_option maxHeartbeats 1000000 in
theorem bitsPut_walk (a l : Int) (x : Nat) (y : Nat) (hx : x < 18446744073709551616) (w : World) :
    Calls Try.prog 4 #[fld a l, .int .u64 x, .int .u64 y] w fun e w' => e = .returned (.bool true) ∧ Below w.heap.size w w' := by
  have hp := put_any a l x y hx
  have hq := rput_any a l x y hx
  simp only [pairV] at hp hq
  generalize putF a l x y = r at hp hq
  obtain ⟨r1, r2⟩ := r
  dsimp only at hp hq
  have e1 : ((r1 : Int) == (r1 : Int)) = true := by simp
  have e2 : (r2 == r2) = true := by simp
  go_enter Try.func4, Try.ntmps4
  go_wp2_with fail
  refine (hp _).mono ?_
  rintro e w1 ⟨rfl, hb1⟩
  have K1 := keep_fld (keep_fld0 w (.int .i64 a) (.int .i64 l) 23) hb1
  obtain ⟨c0, c1, _⟩ := id K1
  clear hb1
  go_wp2_with fail
  refine (plain_any a l _).mono ?_
  rintro e w2 ⟨rfl, hb2⟩
  have K2 := keep_fld K1 hb2
  clear hb2
  go_wp2_with fail
  refine (hq _).mono ?_
  rintro e w3 ⟨rfl, hb3⟩
  have K3 := keep_fld K2 hb3
  clear hb3
  go_wp2_with fail
  refine (awake_any _).mono ?_
  rintro e w4 ⟨rfl, hb4⟩
  have K4 := keep_fld K3 hb4
  go_wp2
  go_ret
  exact ⟨rfl, K4.2.2.1⟩

set_option maxRecDepth 100000 in
set_option maxHeartbeats 1000000 in
theorem bitsSigned_walk (a l : Int) (x : Nat) (y : Int) (hx : x < 18446744073709551616) (w : World) :
    Calls Try.prog 7 #[fld a l, .int .u64 x, .int .i64 y] w fun e w' => e = .returned (.bool true) ∧ Below w.heap.size w w' := by
  have hp := sput_any a l x y hx
  have hq := rsput_any a l x y hx
  simp only [pairV] at hp hq
  generalize sputF a l x y = r at hp hq
  obtain ⟨r1, r2⟩ := r
  dsimp only at hp hq
  have e1 : ((r1 : Int) == (r1 : Int)) = true := by simp
  have e2 : (r2 == r2) = true := by simp
  go_enter Try.func7, Try.ntmps7
  go_wp2_with fail
  refine (hp _).mono ?_
  rintro e w1 ⟨rfl, hb1⟩
  have K1 := keep_fld (keep_fld0 w (.int .i64 a) (.int .i64 l) 23) hb1
  obtain ⟨c0, c1, _⟩ := id K1
  clear hb1
  go_wp2_with fail
  refine (plain_any a l _).mono ?_
  rintro e w2 ⟨rfl, hb2⟩
  have K2 := keep_fld K1 hb2
  clear hb2
  go_wp2_with fail
  refine (hq _).mono ?_
  rintro e w3 ⟨rfl, hb3⟩
  have K3 := keep_fld K2 hb3
  clear hb3
  go_wp2_with fail
  refine (awake_any _).mono ?_
  rintro e w4 ⟨rfl, hb4⟩
  have K4 := keep_fld K3 hb4
  go_wp2
  go_ret
  exact ⟨rfl, K4.2.2.1⟩

end Go.Proofs.Ytlchbjocemegbaa
