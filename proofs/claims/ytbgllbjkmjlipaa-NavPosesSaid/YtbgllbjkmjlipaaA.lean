/- Contracts of gauss's tests: whole, May. -/
import Derived.Test.YtbgllbjkmjlipaaRows
import Derived.Test.YtbgllbjkmjlipaaF4
import Derived.WalkKit
import Derived.WalkSpells
import Derived.WalkLawsBesides
import Derived.BigGuardPart
import Derived.BigQuiet
import Derived.Lib.Hide
import Derived.Deep.RegionHeld3
import Derived.Deep.DrawnRows
import Derived.Laws.Externs
namespace Go.Proofs.Ytbgllbjkmjlipaa
open Go.RowKit

@[local go_sem] theorem call79 (args : Array Value) (w : World) : (callFunc 79 args).run Try.prog w = ((Extern.MathFloor.toIntegral "math.archTrunc" .zero args).run Try.prog w).andThen fun v w' => .ok (.value v) w' :=
  run_callFunc_extern Try.func79 (by kernel_rfl) (by kernel_rfl) (by kernel_rfl) (by kernel_rfl) args w
theorem integral_eq (x : Nat) : Extern.MathFloor.toIntegral "math.archTrunc" .zero #[.float .f64 x] = match Ieee.double.read x with
    | .nan s t =>
      if Ieee.double.quiet t = t then pure (.float .f64 x) else do
      let kept ← choose (.extern "math.Floor,Ceil,Trunc,RoundToEven.signallingNaN kept" 2)
      pure (.float .f64 (if kept == 1 then x else Ieee.double.write (.nan s (Ieee.double.quiet t))))
    | d => pure (.float .f64 (Ieee.double.write (d.integral .zero))) := rfl
theorem run_trunc {x : Nat} (hx : ¬ NaN x) (w : World) : (Extern.MathFloor.toIntegral "math.archTrunc" .zero #[.float .f64 x]).run Try.prog w = .ok (.float .f64 (Ieee.double.write ((Ieee.double.read x).integral .zero))) w := by
  rw [integral_eq]
  cases h : Ieee.double.read x with
  | nan s t => exact absurd ⟨s, t, h⟩ hx
  | number s m e => simp
  | infinity s => simp
theorem run_trunc_nan {x : Nat} (hx : NaN x) (w : World) : ∃ y w', (Extern.MathFloor.toIntegral "math.archTrunc" .zero #[.float .f64 x]).run Try.prog w = .ok (.float .f64 y) w' ∧ Below w.heap.size w w' := by
  obtain ⟨s, t, h⟩ := hx
  rw [integral_eq, h]
  dsimp only
  split
  · exact ⟨x, w, by simp, Below.refl _ _⟩
  · simp
    split
    · exact ⟨_, _, rfl, Below.refl _ _⟩
    · exact ⟨_, _, rfl, (Below.refl _ _).drew⟩
set_option maxRecDepth 100000 in
theorem trunc_any (x : Nat) (w : World) (y : Nat) (w' : World) (h : (Extern.MathFloor.toIntegral "math.archTrunc" .zero #[.float .f64 x]).run Try.prog w = .ok (.float .f64 y) w') :
    Calls Try.prog 70 #[.float .f64 x] w fun e w1 => e = .returned (.float .f64 y) ∧ w' = w1 := by
  go_enter Try.func70, Try.ntmps70
  go_wp2
  go_ret
  exact ⟨rfl, rfl⟩
@[local go_sem] theorem fmt64 : FloatKind.f64.format = Ieee.double := rfl
/-- What math.Trunc tells of a float: whether it is the float itself. -/
theorem trunc_tells (x : Nat) (w : World) : Calls Try.prog 70 #[.float .f64 x] w fun e w1 => ∃ y, e = .returned (.float .f64 y) ∧ (Ieee.double.order x y == some .eq) = (Ieee.double.order x (Ieee.double.write ((Ieee.double.read x).integral .zero)) == some .eq) ∧ Below w.heap.size w w1 := by
  by_cases hx : NaN x
  · obtain ⟨y, w', h, hb⟩ := run_trunc_nan hx w
    refine (trunc_any x w y w' h).mono ?_
    rintro e w1 ⟨rfl, rfl⟩
    exact ⟨y, rfl, by rw [nan_order hx, nan_order hx], hb⟩
  · refine (trunc_any x w _ _ (run_trunc hx w)).mono ?_
    rintro e w1 ⟨rfl, rfl⟩
    exact ⟨_, rfl, rfl, Below.refl _ _⟩
set_option maxRecDepth 100000 in
theorem whole_any (x : Nat) (w : World) : Calls Try.prog 52 #[.float .f64 x] w fun e w1 => e = .returned (.bool (wholeB x)) ∧ Below w.heap.size w w1 := by
  unfold wholeB
  cases h1 : (Ieee.double.order x (Ieee.double.write ((Ieee.double.read x).integral .zero)) == some .eq) with
  | false =>
    go_enter Try.func52, Try.ntmps52
    go_wp2_with fail
    refine (trunc_tells x w).mono ?_
    rintro e w1 ⟨y, rfl, hy, hb⟩
    rw [h1] at hy
    clear h1
    go_wp2
    go_ret
    exact ⟨rfl, hb⟩
  | true =>
    cases h2 : (Ieee.double.order x 13920626448202203136 == some .gt) with
    | false =>
      go_enter Try.func52, Try.ntmps52
      go_wp2_with fail
      refine (trunc_tells x w).mono ?_
      rintro e w1 ⟨y, rfl, hy, hb⟩
      rw [h1] at hy
      clear h1
      go_wp2
      go_ret
      exact ⟨rfl, hb⟩
    | true =>
      cases h3 : (Ieee.double.order x 4697254411347427328 == some .lt) <;>
      · go_enter Try.func52, Try.ntmps52
        go_wp2_with fail
        refine (trunc_tells x w).mono ?_
        rintro e w1 ⟨y, rfl, hy, hb⟩
        rw [h1] at hy
        clear h1
        go_wp2
        go_ret
        exact ⟨rfl, hb⟩
/-- A number, by its parts' words. -/
abbrev cx (x y : Nat) : Value := .complex .f64 x y
def mayZ (x y : Nat) : Bool := wholeB x && wholeB y
theorem may_any (x y : Nat) (w : World) : Calls Try.prog 30 #[cx x y] w fun e w1 => e = .returned (.bool (mayZ x y)) ∧ Below w.heap.size w w1 := by
  unfold mayZ
  have ha := whole_any x w
  cases h : wholeB x with
  | false =>
    rw [h] at ha
    go_enter Try.func30, Try.ntmps30
    go_wp2_with fail
    refine ha.mono ?_
    rintro e w1 ⟨rfl, hb⟩
    go_wp2
    go_ret
    exact ⟨rfl, hb⟩
  | true =>
    rw [h] at ha
    go_enter Try.func30, Try.ntmps30
    go_wp2_with fail
    refine ha.mono ?_
    rintro e w1 ⟨rfl, hb⟩
    go_wp2_with fail
    refine (whole_any y w1).mono ?_
    rintro e w2 ⟨rfl, hb2⟩
    go_wp2
    go_ret
    exact ⟨rfl, hb.trans (hb2.mono hb.size)⟩
end Go.Proofs.Ytbgllbjkmjlipaa
