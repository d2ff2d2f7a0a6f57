/- Contracts of the functions of package aileronref02 that put into a field. -/
import Derived.Test.YtlchbjocemegbaaS
namespace Go.Proofs.Ytlchbjocemegbaa
open Go.RowKit
attribute [local go_sem ↓] Go.wp_at_zero Go.wp_at_succ

def setTo (A x y k j : Nat) : Bool := if A ≤ j ∧ j < A + k then y.testBit (j - A) else x.testBit j
theorem setTo_step (A x y k : Nat) (j : Nat) (_ : j < 64) : (if j = A + k then y.testBit k else setTo A x y k j) = setTo A x y (k + 1) j := by
  unfold setTo
  by_cases c : j = A + k
  · rw [if_pos c, if_pos (by omega)]
    congr 1
    omega
  · rw [if_neg c]
    by_cases c2 : A ≤ j ∧ j < A + k
    · rw [if_pos c2, if_pos (by omega)]
    · rw [if_neg c2, if_neg (by omega)]

set_option maxHeartbeats 1000000 in
theorem rset_any (A L : Nat) (h1 : A ≤ 63) (h2 : 1 ≤ L) (h3 : L ≤ 64) (h4 : A + L ≤ 64) (x y : Nat) (hx : x < 18446744073709551616) (hy : y < 18446744073709551616) (w : World) :
    Calls Try.prog 36 #[fld A L, .int .u64 x, .int .u64 y] w fun e w' => e = .returned (.int .u64 (setW A L x y)) ∧ Below w.heap.size w w' := by
  have HX := Lib.hid (Box.new w A L)
  go_enter Try.func36, Try.ntmps36
  go_wp2_with fail
  refine (rbits_any x hx _).mono ?_; rintro e w1 ⟨rfl, hb1⟩
  go_wp2_with (refine wpList_store_row rfl 62 _ _ rfl w1.heap.size _ rfl rfl 62 _ (heap_alloc_new w1 _) (info62' _) (by rw [row64_size]; rfl) (row64_cells _) ?_; rw [World.setRow_alloc_new])
  have hsz1 : w.heap.size + 1 ≤ w1.heap.size := by have := hb1.size; simp at this; omega
  have hbw1 : Below w.heap.size w w1 := ((Below.refl _ _).alloc (Nat.le_refl _) _).trans (hb1.mono (by simp <;> omega))
  have HX1 := Lib.hid ((HX.out.below hb1 (by simp <;> omega)).alloc (.cells (row64 x.testBit) 62))
  have HR1 := Lib.hid (Row.new w1 x.testBit)
  clear HX hb1
  refine (rbits_any y hy _).mono ?_; rintro e w2 ⟨rfl, hb2⟩
  go_wp2_with (refine wpList_store_row rfl 62 _ _ rfl w2.heap.size _ rfl rfl 62 _ (heap_alloc_new w2 _) (info62' _) (by rw [row64_size]; rfl) (row64_cells _) ?_; rw [World.setRow_alloc_new])
  have hsz2 : w1.heap.size + 1 ≤ w2.heap.size := by have := hb2.size; simp at this; omega
  have hbw2 : Below w.heap.size w w2 := (hbw1.alloc (by omega) _).trans (hb2.mono (by simp <;> omega))
  have HX2 := Lib.hid ((HX1.out.below hb2 (by simp <;> omega)).alloc (.cells (row64 y.testBit) 62))
  have HR2 := Lib.hid ((HR1.out.below hb2 (by simp <;> omega)).alloc (.cells (row64 y.testBit) 62))
  have HS2 := Lib.hid (Row.new w2 y.testBit)
  clear HX1 HR1 hb2 hbw1
  go_loopw [9] (fun i wr => ∃ k : Nat, k ≤ L ∧ i = .int .i64 k ∧ Hid (Box wr w.heap.size A L) ∧ Hid (Row wr w1.heap.size (setTo A x y k)) ∧ Hid (Row wr w2.heap.size y.testBit) ∧ Below w.heap.size w wr) (fun i _ => L - (intOf i).toNat)
  case atStart =>
    exact ⟨0, by omega, rfl, HX2, Row.congr HR2.out (fun j _ => (by unfold setTo; rw [if_neg (by omega)])), HS2, hbw2.alloc (by omega) _⟩
  case round =>
    clear HX2 HR2 HS2 hbw2
    obtain ⟨k, hk, rfl, HX, HR, HS, hb⟩ := hrel
    have hl := HX.out.len
    by_cases hlt : k < L
    · have ha := HX.out.at_
      have hs := HS.out.cell k (by omega)
      have hc := HR.out.cell (A + k) (by omega)
      have hf := HR.out.frozen (A + k)
      have e1 : IntKind.i64.wrap ((A : Int) + (k : Int)) = (A : Int) + (k : Int) := IntWalk.i64_in _ (by omega)
      have e2 : ((A : Int) + (k : Int)).toNat = A + k := by omega
      have e3 : 0 ≤ (A : Int) + (k : Int) := by omega
      have e4 : (A : Int) + (k : Int) < 64 := by omega
      have e5 : (k : Int) < 64 := by omega
      have e6 : 0 ≤ (k : Int) := by omega
      have HK : Hid (∀ v, (wr.setCell ⟨w1.heap.size, A + k, none⟩ v).drew.cell? ⟨w.heap.size, 0, none⟩ = some (.int .i64 A) ∧ (wr.setCell ⟨w1.heap.size, A + k, none⟩ v).drew.cell? ⟨w2.heap.size, k, none⟩ = some (.bool (y.testBit k))) :=
        fun v => ⟨(HX.out.far (p := ⟨w1.heap.size, A + k, none⟩) (by simp <;> omega) v).drew.at_, (HS.out.far (p := ⟨w1.heap.size, A + k, none⟩) (by simp <;> omega) v).drew.cell k (by omega)⟩
      go_wp2
      go_region_held3 (fun w' => w'.cell? ⟨w.heap.size, 0, none⟩ = some (.int .i64 A) ∧ w'.cell? ⟨w2.heap.size, k, none⟩ = some (.bool (y.testBit k))) (first | exact HK.out _ | exact ⟨ha, hs⟩ | go_keep) (fail)
      clear HK e1 e2 e3 e4
      go_wp2
      go_roundw
      case rel => exact ⟨k + 1, by omega, by go_num, (HX.out.far (by simp <;> omega) _).drew, ((HR.out.store (A + k) _).congr (setTo_step A x y k)).drew, (HS.out.far (by simp <;> omega) _).drew, (hb.setCell (by simp <;> omega) _).drew⟩
      case measure => simp [intOf]; omega
    · obtain rfl : L = k := by omega
      go_wp2_with (first
        | (refine wpList_load_row rfl 62 _ rfl w1.heap.size rfl 62 _ (0, 0) _ HR.out Try.underlying62 rfl (info62' _) ?_)
        | (go_at_call 33; refine (rword_any _ _).mono ?_; rintro e w' ⟨rfl, hb2⟩))
      go_ret
      exact ⟨ret_int rfl, hb.trans (hb2.mono hb.size)⟩

set_option maxHeartbeats 400000 in
theorem rput_no (a l : Int) (x y : Nat) (h : mayB a l = true → maxF a l < y) (w : World) :
    Calls Try.prog 22 #[fld a l, .int .u64 x, .int .u64 y] w fun e w' => e = .returned (.tuple #[.int .u64 0, .int .i64 10]) ∧ Below w.heap.size w w' := by
  cases hm : mayB a l with
  | false =>
    go_enter Try.func22, Try.ntmps22
    go_wp2_with (go_at_call 13; refine (rmay_any _ _ _).mono ?_; rintro e w' ⟨rfl, rfl⟩)
    go_ret2
    exact ⟨rfl, ((Below.refl _ _).alloc (Nat.le_refl _) _).alloc (by simp) _⟩
  | true =>
    have hd : decide (maxF a l < y) = true := by have := h hm; simp <;> omega
    clear h
    go_enter Try.func22, Try.ntmps22
    go_wp2_with (first
      | (go_at_call 13; refine (rmay_any _ _ _).mono ?_; rintro e w' ⟨rfl, rfl⟩)
      | (go_at_call 15; refine (rmax_any _ _ _).mono ?_; rintro e w1 ⟨rfl, hb1⟩))
    go_ret2
    exact ⟨rfl, (((Below.refl _ _).alloc (Nat.le_refl _) _).alloc (by simp) _).trans (hb1.mono (by simp <;> omega))⟩

set_option maxHeartbeats 400000 in
theorem rput_yes (a l : Int) (x y : Nat) (hx : x < 18446744073709551616) (hm : mayB a l = true) (h : y ≤ maxF a l) (w : World) :
    Calls Try.prog 22 #[fld a l, .int .u64 x, .int .u64 y] w fun e w' => e = .returned (.tuple #[.int .u64 (setF a l x y), .int .i64 0]) ∧ Below w.heap.size w w' := by
  have hy : y < 18446744073709551616 := Nat.lt_of_le_of_lt h (maxF_lt a l)
  have hd : decide (maxF a l < y) = false := by simp <;> omega
  obtain ⟨A, L, rfl, rfl, h1, h2, h3, h4⟩ := may_of hm
  clear h
  obtain ⟨k0, k1, _, k3, _⟩ := keep_fld0 w (.int .i64 A) (.int .i64 L) 25
  go_enter Try.func22, Try.ntmps22
  go_wp2_with fail
  refine (rmay_any _ _ _).mono ?_; rintro e w' ⟨rfl, rfl⟩
  go_wp2_with fail
  refine (rmax_any _ _ _).mono ?_; rintro e w1 ⟨rfl, hb1⟩
  obtain ⟨hc, hf⟩ := bcell hb1
  go_wp2_with fail
  refine (rset_any A L h1 h2 h3 h4 x y hx hy _).mono ?_; rintro e w2 ⟨rfl, hb2⟩
  go_wp2
  go_ret2
  exact ⟨by simp [setF], ((((Below.refl _ _).alloc (Nat.le_refl _) _).alloc (by simp) _).trans (hb1.mono (by simp <;> omega))).trans (hb2.mono (by have := hb1.size; simp at this; omega))⟩

set_option maxHeartbeats 400000 in
theorem rsput_no (a l : Int) (x : Nat) (z : Int) (hx : x < 18446744073709551616) (h : sputOk a l x z = false) (w : World) :
    Calls Try.prog 27 #[fld a l, .int .u64 x, .int .i64 z] w fun e w' => e = .returned (.tuple #[.int .u64 0, .int .i64 10]) ∧ Below w.heap.size w w' := by
  cases hm : mayB a l with
  | false =>
    clear h
    go_enter Try.func27, Try.ntmps27
    go_wp2_with (go_at_call 13; refine (rmay_any _ _ _).mono ?_; rintro e w' ⟨rfl, rfl⟩)
    go_ret2
    exact ⟨rfl, ((Below.refl _ _).alloc (Nat.le_refl _) _).alloc (by simp) _⟩
  | true =>
    have hz : (sgnF a l (setF a l x (u64of z)) == z) = false := by simpa [sputOk, hm] using h
    have hz2 : (sgnF a l (setF a l x (u64of z)) != z) = true := by simp [bne, hz]
    clear h
    obtain ⟨A, L, rfl, rfl, h1, h2, h3, h4⟩ := may_of hm
    have hu := u64of_int z
    have hul := u64of_lt z
    clear hz
    generalize u64of z = u at hz2 hu hul
    simp only [setF, Int.toNat_natCast] at hz2
    obtain ⟨k0, k1, _, k3, _⟩ := keep_fld0 w (.int .i64 A) (.int .i64 L) 25
    go_enter Try.func27, Try.ntmps27
    go_wp2_with fail
    refine (rmay_any _ _ _).mono ?_; rintro e w' ⟨rfl, rfl⟩
    go_wp2_with fail
    refine (rset_any A L h1 h2 h3 h4 x u hx hul _).mono ?_; rintro e w1 ⟨rfl, hb1⟩
    obtain ⟨hc, hf⟩ := bcell hb1
    go_wp2_with fail
    refine (rsigned_any A L (setW A L x u) (setW_lt _ _ _ _) _).mono ?_; rintro e w2 ⟨rfl, hb2⟩
    go_wp2
    go_ret2
    exact ⟨rfl, ((((Below.refl _ _).alloc (Nat.le_refl _) _).alloc (by simp) _).trans (hb1.mono (by simp <;> omega))).trans (hb2.mono (by have := hb1.size; simp at this; omega))⟩

set_option maxHeartbeats 400000 in
theorem rsput_yes (a l : Int) (x : Nat) (z : Int) (hx : x < 18446744073709551616) (h : sputOk a l x z = true) (w : World) :
    Calls Try.prog 27 #[fld a l, .int .u64 x, .int .i64 z] w fun e w' => e = .returned (.tuple #[.int .u64 (setF a l x (u64of z)), .int .i64 0]) ∧ Below w.heap.size w w' := by
  simp only [sputOk, Bool.and_eq_true] at h
  obtain ⟨hm, hz⟩ := h
  have hz2 : (sgnF a l (setF a l x (u64of z)) != z) = false := by simp [bne, hz]
  clear hz
  obtain ⟨A, L, rfl, rfl, h1, h2, h3, h4⟩ := may_of hm
  have hu := u64of_int z
  have hul := u64of_lt z
  generalize u64of z = u at hz2 hu hul
  simp only [setF, Int.toNat_natCast] at hz2
  obtain ⟨k0, k1, _, k3, _⟩ := keep_fld0 w (.int .i64 A) (.int .i64 L) 25
  go_enter Try.func27, Try.ntmps27
  go_wp2_with fail
  refine (rmay_any _ _ _).mono ?_; rintro e w' ⟨rfl, rfl⟩
  go_wp2_with fail
  refine (rset_any A L h1 h2 h3 h4 x u hx hul _).mono ?_; rintro e w1 ⟨rfl, hb1⟩
  obtain ⟨hc, hf⟩ := bcell hb1
  go_wp2_with fail
  refine (rsigned_any A L (setW A L x u) (setW_lt _ _ _ _) _).mono ?_; rintro e w2 ⟨rfl, hb2⟩
  go_wp2
  go_ret2
  exact ⟨by simp [setF], ((((Below.refl _ _).alloc (Nat.le_refl _) _).alloc (by simp) _).trans (hb1.mono (by simp <;> omega))).trans (hb2.mono (by have := hb1.size; simp at this; omega))⟩
end Go.Proofs.Ytlchbjocemegbaa
