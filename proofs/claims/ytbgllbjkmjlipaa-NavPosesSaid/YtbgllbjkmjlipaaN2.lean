/- Contracts of the functions of package bits that take a field, for every field and every word. -/
import Derived.Test.YtbgllbjkmjlipaaW2
import Derived.Test.YtbgllbjkmjlipaaN1
namespace Go.Proofs.Ytbgllbjkmjlipaa
open Go.RowKit

theorem ret_int {k : IntKind} {a b : Int} (h : a = b) : Ending.returned (.int k a) = .returned (.int k b) := by rw [h]

/-- A field, by value. -/
abbrev fld (a l : Int) : Value := .agg #[.int .i64 a, .int .i64 l]
def mayB (a l : Int) : Bool := decide (0 ≤ a ∧ a ≤ 63 ∧ 1 ≤ l ∧ l ≤ 64 ∧ a + l ≤ 64)
theorem may_yes {a l : Int} (h : 0 ≤ a ∧ a ≤ 63 ∧ 1 ≤ l ∧ l ≤ 64 ∧ a + l ≤ 64) : true = mayB a l := by unfold mayB; exact (decide_eq_true h).symm
theorem may_no {a l : Int} (h : ¬ (0 ≤ a ∧ a ≤ 63 ∧ 1 ≤ l ∧ l ≤ 64 ∧ a + l ≤ 64)) : false = mayB a l := by unfold mayB; exact (decide_eq_false h).symm

set_option maxHeartbeats 400000 in
theorem bmay_any (a l : Int) (w : World) :
    Calls Try.prog 89 #[fld a l] w fun e w' => e = .returned (.bool (mayB a l)) ∧ w.alloc (.cells #[.int .i64 a, .int .i64 l] 137) = w' := by
  cases c1 : decide (0 ≤ a) with
  | false =>
    go_enter Try.func89, Try.ntmps89
    go_wp2
    go_ret
    simp at c1
    exact ⟨ret_bool (may_no (by omega)), rfl⟩
  | true =>
    cases c2 : decide (a < 64) with
    | false =>
      go_enter Try.func89, Try.ntmps89
      go_wp2
      go_ret
      simp at c1 c2
      exact ⟨ret_bool (may_no (by omega)), rfl⟩
    | true =>
      cases c3 : decide (1 ≤ l) with
      | false =>
        go_enter Try.func89, Try.ntmps89
        go_wp2
        go_ret
        simp at c1 c2 c3
        exact ⟨ret_bool (may_no (by omega)), rfl⟩
      | true =>
        cases c4 : decide (l ≤ 64) with
        | false =>
          go_enter Try.func89, Try.ntmps89
          go_wp2
          go_ret
          simp at c1 c2 c3 c4
          exact ⟨ret_bool (may_no (by omega)), rfl⟩
        | true =>
          have d1 : 1 ≤ l := by simpa using c3
          have d2 : l ≤ 64 := by simpa using c4
          cases c5 : decide (a ≤ 64 - l) with
          | false =>
            go_enter Try.func89, Try.ntmps89
            go_wp2
            go_ret
            simp at c1 c2 c5
            exact ⟨ret_bool (may_no (by omega)), rfl⟩
          | true =>
            go_enter Try.func89, Try.ntmps89
            go_wp2
            go_ret
            simp at c1 c2 c5
            exact ⟨ret_bool (may_yes (by omega)), rfl⟩
theorem bcell {W w1 : World} (hb : Below W.heap.size W w1) : (∀ b o, b < W.heap.size → w1.cell? ⟨b, o, none⟩ = W.cell? ⟨b, o, none⟩) ∧ (∀ b o, b < W.heap.size → w1.frozen? ⟨b, o, none⟩ = W.frozen? ⟨b, o, none⟩) :=
  ⟨fun b o h => hb.cell (p := ⟨b, o, none⟩) h, fun b o h => hb.frozen (p := ⟨b, o, none⟩) h⟩
theorem bmay_below (a l : Int) (w : World) : Calls Try.prog 89 #[fld a l] w fun e w' => e = .returned (.bool (mayB a l)) ∧ Below w.heap.size w w' :=
  (bmay_any a l w).mono fun _ _ ⟨he, hw⟩ => ⟨he, hw ▸ (Below.refl _ _).alloc (Nat.le_refl _) _⟩
theorem may_of {a l : Int} (h : mayB a l = true) : ∃ A L : Nat, a = A ∧ l = L ∧ A ≤ 63 ∧ 1 ≤ L ∧ L ≤ 64 ∧ A + L ≤ 64 := by
  unfold mayB at h
  have h := of_decide_eq_true h
  exact ⟨a.toNat, l.toNat, by omega, by omega, by omega, by omega, by omega, by omega⟩
def maxF (a l : Int) : Nat := if mayB a l then maxW l.toNat else 0

set_option maxHeartbeats 400000 in
theorem bmax_any (a l : Int) (w : World) :
    Calls Try.prog 77 #[fld a l] w fun e w' => e = .returned (.int .u64 (maxF a l)) ∧ Below w.heap.size w w' := by
  cases hm : mayB a l with
  | false =>
    go_enter Try.func77, Try.ntmps77
    go_wp2_with (go_at_call 89; refine (bmay_any _ _ _).mono ?_; rintro e w' ⟨rfl, rfl⟩)
    go_ret
    exact ⟨ret_int (by simp [maxF, hm]), ((Below.refl _ _).alloc (Nat.le_refl _) _).alloc (by simp) _⟩
  | true =>
    obtain ⟨A, L, rfl, rfl, h1, h2, h3, h4⟩ := may_of hm
    have hl : ((64 : Int) - (L : Int)).toNat = 64 - L := by omega
    go_enter Try.func77, Try.ntmps77
    go_wp2_with (go_at_call 89; refine (bmay_any _ _ _).mono ?_; rintro e w' ⟨rfl, rfl⟩)
    go_ret
    exact ⟨ret_int (by simp only [maxF, hm, if_pos, Int.toNat_natCast]; exact max_int L h3), ((Below.refl _ _).alloc (Nat.le_refl _) _).alloc (by simp) _⟩

def sgnF (a l : Int) (w : Nat) : Int := if mayB a l then i64of (sgnW a.toNat l.toNat w) else 0

set_option maxHeartbeats 400000 in
theorem bsigned_any (a l : Int) (x : Nat) (w : World) :
    Calls Try.prog 87 #[fld a l, .int .u64 x] w fun e w' => e = .returned (.int .i64 (sgnF a l x)) ∧ Below w.heap.size w w' := by
  cases hm : mayB a l with
  | false =>
    go_enter Try.func87, Try.ntmps87
    go_wp2_with (go_at_call 89; refine (bmay_any _ _ _).mono ?_; rintro e w' ⟨rfl, rfl⟩)
    go_ret
    exact ⟨ret_int (by simp [sgnF, hm]), ((Below.refl _ _).alloc (Nat.le_refl _) _).alloc (by simp) _⟩
  | true =>
    obtain ⟨A, L, rfl, rfl, h1, h2, h3, h4⟩ := may_of hm
    have hb0 : Below w.heap.size w ((w.alloc (.cells #[.int .i64 A, .int .i64 L] 137)).alloc (.cells #[.int .i64 A, .int .i64 L] 137)) := ((Below.refl _ _).alloc (Nat.le_refl _) _).alloc (by simp) _
    have k1 : IntKind.i64.wrap (64 - (A : Int)) = 64 - (A : Int) := IntWalk.i64_in _ (by omega)
    have k2 : IntKind.i64.wrap (64 - (A : Int) - (L : Int)) = 64 - (A : Int) - (L : Int) := IntWalk.i64_in _ (by omega)
    have k3 : IntKind.i64.wrap (64 - (L : Int)) = 64 - (L : Int) := IntWalk.i64_in _ (by omega)
    have k4 : 0 ≤ 64 - (A : Int) - (L : Int) := by omega
    have k5 : 0 ≤ 64 - (L : Int) := by omega
    have k6 : (64 - (A : Int) - (L : Int)).toNat = 64 - A - L := by omega
    have k7 : (64 - (L : Int)).toNat = 64 - L := by omega
    go_enter Try.func87, Try.ntmps87
    go_wp2_with (go_at_call 89; refine (bmay_any _ _ _).mono ?_; rintro e w' ⟨rfl, rfl⟩)
    go_region_held3 (fun w' => w'.cell? ⟨w.heap.size, 0, none⟩ = some (.int .i64 A) ∧ w'.cell? ⟨w.heap.size, 1, none⟩ = some (.int .i64 L)) (go_keep) (fail)
    go_wp2
    go_ret
    exact ⟨ret_int (by simp only [sgnF, hm, if_pos, Int.toNat_natCast]; exact sgn_int A L x h4 h2), hb0.drew⟩

/-- The box of a field: what is held of the world while a field's value lies in block b. -/
theorem keep_fld {w : World} {b : Nat} {v0 v1 : Value} {W w1 : World} (h : W.cell? ⟨b, 0, none⟩ = some v0 ∧ W.cell? ⟨b, 1, none⟩ = some v1 ∧ Below w.heap.size w W ∧ b < W.heap.size ∧ w.heap.size ≤ W.heap.size) (hb : Below W.heap.size W w1) :
    w1.cell? ⟨b, 0, none⟩ = some v0 ∧ w1.cell? ⟨b, 1, none⟩ = some v1 ∧ Below w.heap.size w w1 ∧ b < w1.heap.size ∧ w.heap.size ≤ w1.heap.size := by
  obtain ⟨h0, h1, h2, h3, h4⟩ := h
  exact ⟨(hb.cell (p := ⟨b, 0, none⟩) h3).trans h0, (hb.cell (p := ⟨b, 1, none⟩) h3).trans h1, h2.trans (hb.mono h4), Nat.lt_of_lt_of_le h3 hb.size, Nat.le_trans h4 hb.size⟩
theorem keep_fld0 (w : World) (v0 v1 : Value) (t : TypeId) : (w.alloc (.cells #[v0, v1] t)).cell? ⟨w.heap.size, 0, none⟩ = some v0 ∧ (w.alloc (.cells #[v0, v1] t)).cell? ⟨w.heap.size, 1, none⟩ = some v1 ∧ Below w.heap.size w (w.alloc (.cells #[v0, v1] t)) ∧
    w.heap.size < (w.alloc (.cells #[v0, v1] t)).heap.size ∧ w.heap.size ≤ (w.alloc (.cells #[v0, v1] t)).heap.size :=
  ⟨by rw [cell_of_row _ _ _ _ _ _ (heap_alloc_new w _)]; rfl, by rw [cell_of_row _ _ _ _ _ _ (heap_alloc_new w _)]; rfl, (Below.refl _ _).alloc (Nat.le_refl _) _, by simp, by simp⟩
theorem held_drew {w W : World} {b : Nat} {v0 v1 : Value} (h : W.cell? ⟨b, 0, none⟩ = some v0 ∧ W.cell? ⟨b, 1, none⟩ = some v1 ∧ Below w.heap.size w W ∧ b < W.heap.size ∧ w.heap.size ≤ W.heap.size) :
    W.drew.cell? ⟨b, 0, none⟩ = some v0 ∧ W.drew.cell? ⟨b, 1, none⟩ = some v1 ∧ Below w.heap.size w W.drew ∧ b < W.drew.heap.size ∧ w.heap.size ≤ W.drew.heap.size := ⟨h.1, h.2.1, h.2.2.1.drew, h.2.2.2⟩

set_option maxHeartbeats 400000 in
theorem bset_any (A L : Nat) (h1 : A ≤ 63) (h2 : 1 ≤ L) (h3 : L ≤ 64) (h4 : A + L ≤ 64) (x y : Nat) (hx : x < 18446744073709551616) (hy : y < 18446744073709551616) (w : World) :
    Calls Try.prog 95 #[fld A L, .int .u64 x, .int .u64 y] w fun e w' => e = .returned (.int .u64 (setW A L x y)) ∧ Below w.heap.size w w' := by
  have hm : mayB A L = true := (may_yes (by omega)).symm
  go_enter Try.func95, Try.ntmps95
  go_wp2
  go_region_held3 (fun w' => w'.cell? ⟨w.heap.size, 0, none⟩ = some (.int .i64 A) ∧ w'.cell? ⟨w.heap.size, 1, none⟩ = some (.int .i64 L) ∧ Below w.heap.size w w' ∧ w.heap.size < w'.heap.size ∧ w.heap.size ≤ w'.heap.size)
    (first | exact keep_fld (by assumption) hbw | exact held_drew (keep_fld0 w _ _ _) )
    (first | (go_at_call 77; refine (bmax_any _ _ _).mono ?_; rintro e w1 ⟨rfl, hbw⟩))
  have hs := (by assumption : w1.cell? ⟨w.heap.size, 0, none⟩ = some (.int .i64 A) ∧ w1.cell? ⟨w.heap.size, 1, none⟩ = some (.int .i64 L) ∧ Below w.heap.size w w1 ∧ w.heap.size < w1.heap.size ∧ w.heap.size ≤ w1.heap.size).2.2.1
  go_wp2
  go_ret
  refine ⟨ret_int ?_, hs⟩
  simp only [maxF, hm, if_pos, Int.toNat_natCast]
  exact set_int A L x y hx hy h4

theorem maxF_lt (a l : Int) : maxF a l < 18446744073709551616 := by
  unfold maxF; split
  · exact maxW_lt _
  · omega
def setF (a l : Int) (x y : Nat) : Nat := setW a.toNat l.toNat x y

def sputOk (a l : Int) (x : Nat) (z : Int) : Bool := mayB a l && (sgnF a l (setF a l x (u64of z)) == z)

set_option maxHeartbeats 400000 in
theorem sput_no (a l : Int) (x : Nat) (z : Int) (hx : x < 18446744073709551616) (h : sputOk a l x z = false) (w : World) :
    Calls Try.prog 83 #[fld a l, .int .u64 x, .int .i64 z] w fun e w' => e = .returned (.tuple #[.int .u64 0, .int .i64 10]) ∧ Below w.heap.size w w' := by
  cases hm : mayB a l with
  | false =>
    clear h
    go_enter Try.func83, Try.ntmps83
    go_wp2_with (go_at_call 89; refine (bmay_any _ _ _).mono ?_; rintro e w' ⟨rfl, rfl⟩)
    go_ret2
    exact ⟨rfl, ((Below.refl _ _).alloc (Nat.le_refl _) _).alloc (by simp) _⟩
  | true =>
    have hz : (sgnF a l (setF a l x (u64of z)) == z) = false := by simpa [sputOk, hm] using h
    have hz2 : (sgnF a l (setF a l x (u64of z)) != z) = true := by simp [bne, hz]
    clear h
    obtain ⟨A, L, rfl, rfl, h1, h2, h3, h4⟩ := may_of hm
    have hu := u64of_int z
    have hul := u64of_lt z
    clear hz
    generalize u64of z = u at hz2 hu hul
    simp only [setF, Int.toNat_natCast] at hz2
    obtain ⟨k0, k1, _, k3, _⟩ := keep_fld0 w (.int .i64 A) (.int .i64 L) 137
    go_enter Try.func83, Try.ntmps83
    go_wp2_with fail
    refine (bmay_any _ _ _).mono ?_; rintro e w' ⟨rfl, rfl⟩
    go_wp2_with fail
    refine (bset_any A L h1 h2 h3 h4 x u hx hul _).mono ?_; rintro e w1 ⟨rfl, hb1⟩
    obtain ⟨hc, hf⟩ := bcell hb1
    go_wp2_with fail
    refine (bsigned_any A L (setW A L x u) _).mono ?_; rintro e w2 ⟨rfl, hb2⟩
    go_wp2
    go_ret2
    exact ⟨rfl, ((((Below.refl _ _).alloc (Nat.le_refl _) _).alloc (by simp) _).trans (hb1.mono (by simp <;> omega))).trans (hb2.mono (by have := hb1.size; simp at this; omega))⟩

set_option maxHeartbeats 400000 in
theorem sput_yes (a l : Int) (x : Nat) (z : Int) (hx : x < 18446744073709551616) (h : sputOk a l x z = true) (w : World) :
    Calls Try.prog 83 #[fld a l, .int .u64 x, .int .i64 z] w fun e w' => e = .returned (.tuple #[.int .u64 (setF a l x (u64of z)), .int .i64 0]) ∧ Below w.heap.size w w' := by
  simp only [sputOk, Bool.and_eq_true] at h
  obtain ⟨hm, hz⟩ := h
  have hz2 : (sgnF a l (setF a l x (u64of z)) != z) = false := by simp [bne, hz]
  clear hz
  obtain ⟨A, L, rfl, rfl, h1, h2, h3, h4⟩ := may_of hm
  have hu := u64of_int z
  have hul := u64of_lt z
  generalize u64of z = u at hz2 hu hul
  simp only [setF, Int.toNat_natCast] at hz2
  obtain ⟨k0, k1, _, k3, _⟩ := keep_fld0 w (.int .i64 A) (.int .i64 L) 137
  go_enter Try.func83, Try.ntmps83
  go_wp2_with fail
  refine (bmay_any _ _ _).mono ?_; rintro e w' ⟨rfl, rfl⟩
  go_wp2_with fail
  refine (bset_any A L h1 h2 h3 h4 x u hx hul _).mono ?_; rintro e w1 ⟨rfl, hb1⟩
  obtain ⟨hc, hf⟩ := bcell hb1
  go_wp2_with fail
  refine (bsigned_any A L (setW A L x u) _).mono ?_; rintro e w2 ⟨rfl, hb2⟩
  go_wp2
  go_ret2
  exact ⟨by simp [setF], ((((Below.refl _ _).alloc (Nat.le_refl _) _).alloc (by simp) _).trans (hb1.mono (by simp <;> omega))).trans (hb2.mono (by have := hb1.size; simp at this; omega))⟩
end Go.Proofs.Ytbgllbjkmjlipaa
