/- Contracts: cross, on. -/
import Derived.Test.YtbgllbjkmjlipaaK
namespace Go.Proofs.Ytbgllbjkmjlipaa
open Go.RowKit
attribute [local go_sem] fmt64

theorem run_fmul (z y : Bool) (a c : Int) (ha : a.natAbs < 4194304) (hc : c.natAbs < 4194304) (w : World) : (binOp .mul 59 (.float .f64 (wd z a)) (.float .f64 (wd y c))).run Try.prog w = .ok (.float .f64 (wd (sg z a ^^ sg y c) (a * c))) w :=
  run_float_arith w .mul 59 .f64 _ _ _ (mul_wd z y a c (by omega) (by omega) (by have := mul_bd ha hc; omega))
theorem run_fsub (z y : Bool) (a c : Int) (ha : a.natAbs < 4503599627370496) (hc : c.natAbs < 4503599627370496) (w : World) : (binOp .sub 59 (.float .f64 (wd z a)) (.float .f64 (wd y c))).run Try.prog w = .ok (.float .f64 (wd (decide (a = 0) && z && !y) (a - c))) w :=
  run_float_arith w .sub 59 .f64 _ _ _ (sub_wd z y a c (by omega) (by omega) (by omega))
theorem cross_any (z z' y y' : Bool) (a b c d : Int) (ha : a.natAbs < 4194304) (hb : b.natAbs < 4194304) (hc : c.natAbs < 4194304) (hd : d.natAbs < 4194304) (w : World) :
    Calls Try.prog 49 #[cx (wd z a) (wd z' b), cx (wd y c) (wd y' d)] w fun e w' => (∃ s, e = .returned (.float .f64 (wd s (a * d - b * c)))) ∧ w = w' := by
  have h1 := run_fmul z y' a d ha hd
  have h2 := run_fmul z' y b c hb hc
  have h3 := run_fsub (sg z a ^^ sg y' d) (sg z' b ^^ sg y c) (a * d) (b * c) (by have := mul_bd ha hd; omega) (by have := mul_bd hb hc; omega)
  go_enter Try.func49, Try.ntmps49
  go_wp2
  go_ret
  exact ⟨⟨_, rfl⟩, rfl⟩
theorem leq0 (s : Bool) (n : Int) (hn : n.natAbs < 9007199254740992) : (Ieee.double.order (wd s n) 0 == some .lt || Ieee.double.order (wd s n) 0 == some .eq) = decide (n ≤ 0) := by
  have := order_wd s false n 0 hn (by decide)
  rw [lit0] at this
  rw [this, cmp_lt, cmp_eq, ← Bool.decide_or]
  congr 1
  exact propext (by omega)
theorem eq0 (s : Bool) (n : Int) (hn : n.natAbs < 9007199254740992) : (Ieee.double.order (wd s n) 0 == some .eq) = decide (n = 0) := by
  have := order_wd s false n 0 hn (by decide)
  rw [lit0] at this
  rw [this, cmp_eq]
theorem gt0 (s : Bool) (n : Int) (hn : n.natAbs < 9007199254740992) : (Ieee.double.order (wd s n) 0 == some .gt) = decide (0 < n) := by
  have := order_wd s false n 0 hn (by decide)
  rw [lit0] at this
  rw [this, cmp_gt]
def onB (a b c d : Int) : Bool := decide (a * d - b * c = 0 ∧ a * c ≤ 0 ∧ b * d ≤ 0)
theorem on_any (z z' y y' : Bool) (a b c d : Int) (ha : a.natAbs < 4194304) (hb : b.natAbs < 4194304) (hc : c.natAbs < 4194304) (hd : d.natAbs < 4194304) (w : World) :
    Calls Try.prog 48 #[cx (wd z a) (wd z' b), cx (wd y c) (wd y' d)] w fun e w' => e = .returned (.bool (onB a b c d)) ∧ w = w' := by
  have m1 := mul_bd ha hd
  have m2 := mul_bd hb hc
  have m3 := mul_bd ha hc
  have m4 := mul_bd hb hd
  have hcr := cross_any z z' y y' a b c d ha hb hc hd
  have q1 := fun s => eq0 s (a * d - b * c) (by omega)
  have h3 := run_fmul z y a c ha hc
  have h4 := run_fmul z' y' b d hb hd
  have q3 := leq0 (sg z a ^^ sg y c) (a * c) (by omega)
  have q4 := leq0 (sg z' b ^^ sg y' d) (b * d) (by omega)
  unfold onB
  by_cases c1 : a * d - b * c = 0
  · rw [decide_eq_true c1] at q1
    by_cases c3 : a * c ≤ 0
    · rw [decide_eq_true c3] at q3
      by_cases c4 : b * d ≤ 0
      · rw [decide_eq_true c4] at q4
        rw [decide_eq_true ⟨c1, c3, c4⟩]
        clear c1 c3 c4
        go_enter Try.func48, Try.ntmps48
        go_wp2_with fail
        refine (hcr _).mono ?_
        rintro e w1 ⟨⟨s, rfl⟩, rfl⟩
        go_wp2
        go_ret
        exact ⟨rfl, rfl⟩
      · rw [decide_eq_false c4] at q4
        rw [decide_eq_false (by rintro ⟨_, _, h⟩; exact c4 h)]
        clear c1 c3 c4
        go_enter Try.func48, Try.ntmps48
        go_wp2_with fail
        refine (hcr _).mono ?_
        rintro e w1 ⟨⟨s, rfl⟩, rfl⟩
        go_wp2
        go_ret
        exact ⟨rfl, rfl⟩
    · rw [decide_eq_false c3] at q3
      rw [decide_eq_false (by rintro ⟨_, h, _⟩; exact c3 h)]
      clear c1 c3
      go_enter Try.func48, Try.ntmps48
      go_wp2_with fail
      refine (hcr _).mono ?_
      rintro e w1 ⟨⟨s, rfl⟩, rfl⟩
      go_wp2
      go_ret
      exact ⟨rfl, rfl⟩
  · rw [decide_eq_false c1] at q1
    rw [decide_eq_false (by rintro ⟨h, _⟩; exact c1 h)]
    clear c1
    go_enter Try.func48, Try.ntmps48
    go_wp2_with fail
    refine (hcr _).mono ?_
    rintro e w1 ⟨⟨s, rfl⟩, rfl⟩
    go_wp2
    go_ret
    exact ⟨rfl, rfl⟩
end Go.Proofs.Ytbgllbjkmjlipaa
