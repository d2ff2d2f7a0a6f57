/- Contracts of the functions of package aileronref02 that read and write a field. -/
import Derived.Test.YtlchbjocemegbaaR
namespace Go.Proofs.Ytlchbjocemegbaa
open Go.RowKit

theorem getrow_bit (A x k : Nat) (j : Nat) (_ : j < 64) : (if j = k then x.testBit (A + k) else (decide (j < k) && x.testBit (A + j))) = (decide (j < k + 1) && x.testBit (A + j)) := by
  by_cases c : j = k
  · subst c; simp
  · rw [if_neg c]
    by_cases c2 : j < k
    · have : j < k + 1 := by omega
      simp [c2, this]
    · have : ¬ j < k + 1 := by omega
      simp [c2, this]

set_option maxHeartbeats 400000 in
theorem rget_any (a l : Int) (x : Nat) (hx : x < 18446744073709551616) (w : World) :
    Calls Try.prog 17 #[fld a l, .int .u64 x] w fun e w' => e = .returned (.int .u64 (getF a l x)) ∧ Below w.heap.size w w' := by
  cases hm : mayB a l with
  | false =>
    go_enter Try.func17, Try.ntmps17
    go_wp2_with (go_at_call 13; refine (rmay_any _ _ _).mono ?_; rintro e w' ⟨rfl, rfl⟩)
    go_ret
    exact ⟨ret_int (by simp [getF, hm]), ((Below.refl _ _).alloc (Nat.le_refl _) _).alloc (by simp) _⟩
  | true =>
    obtain ⟨A, L, rfl, rfl, h1, h2, h3, h4⟩ := may_of hm
    have HX := Lib.hid ((Box.new w A L).alloc (.cells #[.int .i64 A, .int .i64 L] 25))
    go_enter Try.func17, Try.ntmps17
    go_wp2_with fail
    refine (rmay_any _ _ _).mono ?_; rintro e w' ⟨rfl, rfl⟩
    go_wp2_with fail
    refine (rbits_any x hx _).mono ?_; rintro e w1 ⟨rfl, hb1⟩
    go_wp2_with (refine wpList_store_row rfl 62 _ _ rfl w1.heap.size _ rfl rfl 62 _ (heap_alloc_new w1 _) (info62' _) (by rw [row64_size]; rfl) (row64_cells _) ?_; rw [World.setRow_alloc_new])
    have hsz : w.heap.size + 2 ≤ w1.heap.size := by have := hb1.size; simp at this; omega
    have hbw : Below w.heap.size w w1 := (((Below.refl _ _).alloc (Nat.le_refl _) _).alloc (by simp) _).trans (hb1.mono (by simp <;> omega))
    have HX1 := Lib.hid (HX.out.below hb1 (by simp <;> omega))
    clear HX hb1
    go_loopw [7] (fun i wr => ∃ k : Nat, k ≤ L ∧ i = .int .i64 k ∧ Hid (Box wr w.heap.size A L) ∧ Hid (Row wr w1.heap.size x.testBit) ∧ Hid (Row wr (w1.heap.size + 1) (fun j => decide (j < k) && x.testBit (A + j))) ∧ Below w.heap.size w wr) (fun i _ => L - (intOf i).toNat)
    case atStart =>
      exact ⟨0, by omega, rfl, (HX1.out.alloc _).alloc _, (Row.new _ _).alloc _, (Row.zero _ (by simp)).congr (by simp), (hbw.alloc (by omega) _).alloc (by simp <;> omega) _⟩
    case round =>
      clear HX1 hbw
      obtain ⟨k, hk, rfl, HX, HS, HR, hb⟩ := hrel
      have hl := HX.out.len
      have ha := HX.out.at_
      by_cases hlt : k < L
      · have hs := HS.out.cell (A + k) (by omega)
        have hc := HR.out.cell k (by omega)
        have hf := HR.out.frozen k
        go_wp2
        go_roundw
        case rel => exact ⟨k + 1, by omega, by go_num, HX.out.far (by simp <;> omega) _, HS.out.far (by simp <;> omega) _, (HR.out.store k _).congr (getrow_bit A x k), hb.setCell (by simp <;> omega) _⟩
        case measure => simp [intOf]; omega
      · obtain rfl : L = k := by omega
        go_wp2_with (first
          | (refine wpList_load_row rfl 62 _ rfl (w1.heap.size + 1) rfl 62 _ (0, 0) _ HR.out Try.underlying62 rfl (info62' _) ?_)
          | (go_at_call 33; refine (rword_any _ _).mono ?_; rintro e w' ⟨rfl, hb2⟩))
        go_ret
        exact ⟨ret_int (by simp only [getF, hm, if_pos, Int.toNat_natCast]; rfl), hb.trans (hb2.mono hb.size)⟩

theorem sgnrow_bit (A L x k : Nat) (j : Nat) (_ : j < 64) : (if j = k then x.testBit (A + min k (L - 1)) else (decide (j < k) && x.testBit (A + min j (L - 1)))) = (decide (j < k + 1) && x.testBit (A + min j (L - 1))) := by
  by_cases c : j = k
  · subst c; simp
  · rw [if_neg c]
    by_cases c2 : j < k
    · have : j < k + 1 := by omega
      simp [c2, this]
    · have : ¬ j < k + 1 := by omega
      simp [c2, this]

set_option maxHeartbeats 400000 in
theorem rsigned_any (a l : Int) (x : Nat) (hx : x < 18446744073709551616) (w : World) :
    Calls Try.prog 19 #[fld a l, .int .u64 x] w fun e w' => e = .returned (.int .i64 (sgnF a l x)) ∧ Below w.heap.size w w' := by
  cases hm : mayB a l with
  | false =>
    go_enter Try.func19, Try.ntmps19
    go_wp2_with (go_at_call 13; refine (rmay_any _ _ _).mono ?_; rintro e w' ⟨rfl, rfl⟩)
    go_ret
    exact ⟨ret_int (by simp [sgnF, hm]), ((Below.refl _ _).alloc (Nat.le_refl _) _).alloc (by simp) _⟩
  | true =>
    obtain ⟨A, L, rfl, rfl, h1, h2, h3, h4⟩ := may_of hm
    have HX := Lib.hid ((Box.new w A L).alloc (.cells #[.int .i64 A, .int .i64 L] 25))
    go_enter Try.func19, Try.ntmps19
    go_wp2_with fail
    refine (rmay_any _ _ _).mono ?_; rintro e w' ⟨rfl, rfl⟩
    go_wp2_with fail
    refine (rbits_any x hx _).mono ?_; rintro e w1 ⟨rfl, hb1⟩
    go_wp2_with (refine wpList_store_row rfl 62 _ _ rfl w1.heap.size _ rfl rfl 62 _ (heap_alloc_new w1 _) (info62' _) (by rw [row64_size]; rfl) (row64_cells _) ?_; rw [World.setRow_alloc_new])
    have hsz : w.heap.size + 2 ≤ w1.heap.size := by have := hb1.size; simp at this; omega
    have hbw : Below w.heap.size w w1 := (((Below.refl _ _).alloc (Nat.le_refl _) _).alloc (by simp) _).trans (hb1.mono (by simp <;> omega))
    have HX1 := Lib.hid (HX.out.below hb1 (by simp <;> omega))
    clear HX hb1
    go_loopw [7] (fun i wr => ∃ k : Nat, k ≤ 64 ∧ i = .int .i64 k ∧ Hid (Box wr w.heap.size A L) ∧ Hid (Row wr w1.heap.size x.testBit) ∧ Hid (Row wr (w1.heap.size + 1) (fun j => decide (j < k) && x.testBit (A + min j (L - 1)))) ∧ Below w.heap.size w wr) (fun i _ => 64 - (intOf i).toNat)
    case atStart =>
      exact ⟨0, by omega, rfl, (HX1.out.alloc _).alloc _, (Row.new _ _).alloc _, (Row.zero _ (by simp)).congr (by simp), (hbw.alloc (by omega) _).alloc (by simp <;> omega) _⟩
    case round =>
      clear HX1 hbw
      obtain ⟨k, hk, rfl, HX, HS, HR, hb⟩ := hrel
      have hl := HX.out.len
      have ha := HX.out.at_
      by_cases hlt : k < 64
      · have hc := HR.out.cell k (by omega)
        have hf := HR.out.frozen k
        by_cases hkl : k ≤ L - 1
        · have hmn : min k (L - 1) = k := by omega
          have hs := HS.out.cell (A + k) (by omega)
          have e1 : ((A : Int) + (k : Int)).toNat = A + k := by omega
          have HM := Lib.hid hmn
          clear hmn
          go_wp2
          go_roundw
          case rel => exact ⟨k + 1, by omega, by go_num, HX.out.far (by simp <;> omega) _, HS.out.far (by simp <;> omega) _, (HR.out.store k _).congr (fun j hj => (by rw [← sgnrow_bit A L x k j hj, HM.out])), hb.setCell (by simp <;> omega) _⟩
          case measure => simp [intOf]; omega
        · have hmn : min k (L - 1) = L - 1 := by omega
          have hs := HS.out.cell (A + (L - 1)) (by omega)
          have e1 : ((A : Int) + ((L : Int) - 1)).toNat = A + (L - 1) := by omega
          have d1 : (L : Int) - 1 < (k : Int) := by omega
          have HM := Lib.hid hmn
          clear hmn
          go_wp2
          go_roundw
          case rel => exact ⟨k + 1, by omega, by go_num, HX.out.far (by simp <;> omega) _, HS.out.far (by simp <;> omega) _, (HR.out.store k _).congr (fun j hj => (by rw [← sgnrow_bit A L x k j hj, HM.out])), hb.setCell (by simp <;> omega) _⟩
          case measure => simp [intOf]; omega
      · have hlt' : decide ((k : Int) < 64) = false := by simp <;> omega
        go_wp2_with (first
          | (refine wpList_load_row rfl 62 _ rfl (w1.heap.size + 1) rfl 62 _ (0, 0) _ HR.out Try.underlying62 rfl (info62' _) ?_)
          | (go_at_call 33; refine (rword_any _ _).mono ?_; rintro e w' ⟨rfl, hb2⟩))
        go_ret
        refine ⟨ret_int ?_, hb.trans (hb2.mono hb.size)⟩
        have e : wordOf (fun j => decide (j < k) && x.testBit (A + min j (L - 1))) 64 = sgnW A L x := wordOf_congr fun j hj => by
          have : j < k := by omega
          simp [this]
        simp only [sgnF, hm, if_pos, Int.toNat_natCast]
        rw [e, ← i64of_int, IntKind.wrap_i64, wrap64]
end Go.Proofs.Ytlchbjocemegbaa
