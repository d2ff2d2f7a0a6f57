/- Contracts: plain, told, is, Check. -/
import Derived.Test.YtbgllbjkmjlipaaC
namespace Go.Proofs.Ytbgllbjkmjlipaa
open Go.RowKit
attribute [local go_sem] fmt64

theorem lit0 : wd false 0 = 0 := by decide
theorem lit1 : wd false 1 = 4607182418800017408 := by decide
theorem litm1 : wd false (-1) = 13830554455654793216 := by decide
theorem may_wd (z z' : Bool) (a b : Int) (ha : a.natAbs < 9007199254740992) (hb : b.natAbs < 9007199254740992) : mayZ (wd z a) (wd z' b) = rightB a b := by
  unfold mayZ rightB
  rw [whole_wd z a ha, whole_wd z' b hb, ← Bool.decide_and]
  congr 1
  exact propext ⟨fun ⟨⟨h1, h2⟩, h3, h4⟩ => ⟨h1, h2, h3, h4⟩, fun ⟨h1, h2, h3, h4⟩ => ⟨⟨h1, h2⟩, h3, h4⟩⟩
theorem add0_run (z : Bool) (a : Int) (ha : a.natAbs < 9007199254740992) (w : World) : (binOp .add 59 (.float .f64 (wd z a)) (.float .f64 0)).run Try.prog w = .ok (.float .f64 (wd false a)) w := by
  refine run_float_arith w .add 59 .f64 _ _ _ ?_
  show Ieee.double.add (wd z a) 0 = some (wd false a)
  have := add_wd z false a 0 ha (by decide) (by omega)
  rw [lit0] at this
  rw [this]; simp
theorem nplain_any (z z' : Bool) (a b : Int) (ha : a.natAbs < 9007199254740992) (hb : b.natAbs < 9007199254740992) (w : World) : Calls Try.prog 57 #[cx (wd z a) (wd z' b)] w fun e w' => e = .returned (cx (wd false a) (wd false b)) ∧ w = w' := by
  have h1 := add0_run z a ha
  have h2 := add0_run z' b hb
  go_enter Try.func57, Try.ntmps57
  go_wp2
  go_ret
  exact ⟨rfl, rfl⟩
theorem gplain_any (z z' : Bool) (a b : Int) (ha : a.natAbs < 9007199254740992) (hb : b.natAbs < 9007199254740992) (w : World) : Calls Try.prog 71 #[cx (wd z a) (wd z' b)] w fun e w' => e = .returned (cx (wd false a) (wd false b)) ∧ w = w' := by
  have h1 := add0_run z a ha
  have h2 := add0_run z' b hb
  go_enter Try.func71, Try.ntmps71
  go_wp2
  go_ret
  exact ⟨rfl, rfl⟩
/-- What told tells of a whole number. -/
def toldV (a b : Int) : Value := if rightB a b then .tuple #[cx (wd false a) (wd false b), .int .i64 0] else .tuple #[cx 0 0, .int .i64 10]
theorem ntold_any (z z' : Bool) (a b : Int) (ha : a.natAbs < 9007199254740992) (hb : b.natAbs < 9007199254740992) (w : World) : Calls Try.prog 51 #[cx (wd z a) (wd z' b)] w fun e w' => e = .returned (toldV a b) ∧ Below w.heap.size w w' := by
  have hm := may_any (wd z a) (wd z' b)
  rw [may_wd z z' a b ha hb] at hm
  unfold toldV
  cases hr : rightB a b with
  | false =>
    rw [hr] at hm
    go_enter Try.func51, Try.ntmps51
    go_wp2_with fail
    refine (hm _).mono ?_
    rintro e w1 ⟨rfl, hb1⟩
    go_wp2
    go_ret2
    exact ⟨by simp, hb1⟩
  | true =>
    rw [hr] at hm
    go_enter Try.func51, Try.ntmps51
    go_wp2_with fail
    refine (hm _).mono ?_
    rintro e w1 ⟨rfl, hb1⟩
    go_wp2_with fail
    refine (nplain_any z z' a b ha hb _).mono ?_
    rintro e w2 ⟨rfl, rfl⟩
    go_wp2
    go_ret2
    exact ⟨by simp, hb1⟩
theorem gtold_any (z z' : Bool) (a b : Int) (ha : a.natAbs < 9007199254740992) (hb : b.natAbs < 9007199254740992) (w : World) : Calls Try.prog 54 #[cx (wd z a) (wd z' b)] w fun e w' => e = .returned (toldV a b) ∧ Below w.heap.size w w' := by
  have hm := may_any (wd z a) (wd z' b)
  rw [may_wd z z' a b ha hb] at hm
  unfold toldV
  cases hr : rightB a b with
  | false =>
    rw [hr] at hm
    go_enter Try.func54, Try.ntmps54
    go_wp2_with fail
    refine (hm _).mono ?_
    rintro e w1 ⟨rfl, hb1⟩
    go_wp2
    go_ret2
    exact ⟨by simp, hb1⟩
  | true =>
    rw [hr] at hm
    go_enter Try.func54, Try.ntmps54
    go_wp2_with fail
    refine (hm _).mono ?_
    rintro e w1 ⟨rfl, hb1⟩
    go_wp2_with fail
    refine (gplain_any z z' a b ha hb _).mono ?_
    rintro e w2 ⟨rfl, rfl⟩
    go_wp2
    go_ret2
    exact ⟨by simp, hb1⟩

/-! ### is -/
theorem one_over (w : World) : (binOp .quo 59 (.float .f64 4607182418800017408) (.float .f64 0)).run Try.prog w = .ok (.float .f64 9218868437227405312) w :=
  run_float_arith w .quo 59 .f64 _ _ _ (by decide)
theorem inf_gt : (Ieee.double.order 9218868437227405312 0 == some .gt) = true := by decide
theorem ord_self (a : Int) (ha : a.natAbs < 9007199254740992) : (Ieee.double.order (wd false a) (floatOfInt .f64 a) == some .eq) = true := by
  rw [ofInt_wd, order_wd _ _ _ _ ha ha, cmp_eq]; simp
theorem wd_nat0 {a : Int} (h : a = 0) : wd false a = 0 := by subst h; exact lit0
set_option maxHeartbeats 400000 in
theorem is_any (R I : Int) (hR : R.natAbs < 9007199254740992) (hI : I.natAbs < 9007199254740992) (w : World) : Calls Try.prog 28 #[cx (wd false R) (wd false I), zz R I] w fun e w' => e = .returned (.bool true) ∧ Below w.heap.size w w' := by
  have hb0 := (Below.refl w.heap.size w).alloc (Nat.le_refl _) (Obj.cells #[Value.int .i64 R, Value.int .i64 I] 39)
  have o1 := ord_self R hR
  have o2 := ord_self I hI
  have q := one_over
  have g := inf_gt
  by_cases r0 : R = 0
  · have hr0 : (R != 0) = false := by simp [r0, bne]
    rw [wd_nat0 r0] at o1 ⊢
    clear r0
    by_cases i0 : I = 0
    · have hi0 : (I != 0) = false := by simp [i0, bne]
      rw [wd_nat0 i0] at o2 ⊢
      clear i0
      go_enter Try.func28, Try.ntmps28
      go_wp2
      go_ret
      exact ⟨rfl, hb0⟩
    · have hi0 : (I != 0) = true := by simp [i0, bne]
      clear i0
      go_enter Try.func28, Try.ntmps28
      go_wp2
      go_ret
      exact ⟨rfl, hb0⟩
  · have hr0 : (R != 0) = true := by simp [r0, bne]
    clear r0
    by_cases i0 : I = 0
    · have hi0 : (I != 0) = false := by simp [i0, bne]
      rw [wd_nat0 i0] at o2 ⊢
      clear i0
      go_enter Try.func28, Try.ntmps28
      go_wp2
      go_ret
      exact ⟨rfl, hb0⟩
    · have hi0 : (I != 0) = true := by simp [i0, bne]
      clear i0
      go_enter Try.func28, Try.ntmps28
      go_wp2
      go_ret
      exact ⟨rfl, hb0⟩
end Go.Proofs.Ytbgllbjkmjlipaa
