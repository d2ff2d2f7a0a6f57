/- Contracts: value, plain, right, and the document's numbers. -/
import Derived.Test.YtbgllbjkmjlipaaA
namespace Go.Proofs.Ytbgllbjkmjlipaa
open Go.RowKit
attribute [local go_sem] fmt64

/-- What the document's answer makes of a number. -/
def plR (re _im kind : Int) : Int := if kind = 1 ∨ kind = 2 then 1048576 else re
def plI (_re im kind : Int) : Int := if kind = 1 ∨ kind = 2 then 1048576 else im
def rightB (R I : Int) : Bool := decide (-1048576 < R ∧ R < 1048576 ∧ -1048576 < I ∧ I < 1048576)
/-- A number's words x, y, and the document's answer R, I: both right and the same; or neither right. -/
def Num (x y : Nat) (R I : Int) : Prop :=
  (rightB R I = true ∧ x = wd false R ∧ y = wd false I) ∨
  (rightB R I = false ∧ mayZ x y = false ∧ ∀ (z z' : Bool) (c d : Int), c.natAbs < 1048576 → d.natAbs < 1048576 → ((Ieee.double.order x (wd z c) == some .eq) && (Ieee.double.order y (wd z' d) == some .eq)) = false)
theorem num_bad1 {x y : Nat} {R I : Int} (hr : rightB R I = false) (h : Bad x) : Num x y R I :=
  .inr ⟨hr, by unfold mayZ; rw [h.1]; rfl, fun z z' c d hc _ => by rw [h.2 z c hc]; rfl⟩
theorem num_bad2 {x y : Nat} {R I : Int} (hr : rightB R I = false) (h : Bad y) : Num x y R I :=
  .inr ⟨hr, by unfold mayZ; rw [h.1]; simp, fun z z' c d _ hd => by rw [h.2 z' d hd]; simp⟩
theorem num_ints (R I : Int) : Num (floatOfInt .f64 R) (floatOfInt .f64 I) R I := by
  rcases ofInt_cases R with ⟨h1, h2, e1⟩ | ⟨h1, b1⟩
  · rcases ofInt_cases I with ⟨g1, g2, e2⟩ | ⟨g1, b2⟩
    · exact .inl ⟨decide_eq_true ⟨h1, h2, g1, g2⟩, e1, e2⟩
    · exact num_bad2 (decide_eq_false (by omega)) b2
  · exact num_bad1 (decide_eq_false (by omega)) b1
theorem plR_12 {re im kind : Int} (h : kind = 1 ∨ kind = 2) : plR re im kind = 1048576 ∧ plI re im kind = 1048576 := ⟨if_pos h, if_pos h⟩
theorem plR_0 {re im kind : Int} (h : ¬ (kind = 1 ∨ kind = 2)) : plR re im kind = re ∧ plI re im kind = im := ⟨if_neg h, if_neg h⟩
theorem rightB_far : rightB 1048576 1048576 = false := by decide
theorem nan_new (w : World) : ∃ y, NaN y ∧ (binOp .quo 59 (.float .f64 0) (.float .f64 0)).run Try.prog w = .ok (.float .f64 y) w.drew := by
  have e : Ieee.double.div 0 0 = none := by decide
  refine ⟨_, ?_, by simp [binOp, Op.floatArith, fmt64, e]; rfl⟩
  simp only [Question.cut]
  generalize w.tape w.drawn _ = t
  unfold NaN Ieee.Format.read
  rw [d_binade, d_sign, d_inf]
  have h1 : t / 2 % (2 ^ 52 - 1) < 4503599627370495 := Nat.mod_lt _ (by decide)
  generalize t / 2 % (2 ^ 52 - 1) = f at h1
  have h2 : t % 2 < 2 := Nat.mod_lt _ (by decide)
  generalize t % 2 = s at h2
  have e1 : (s * 2 ^ 63 + 9218868437227405312 + 1 + f) % 9223372036854775808 = 9218868437227405312 + 1 + f := by omega
  rw [e1, if_neg (by omega), if_neg (by omega), if_neg (by omega)]
  exact ⟨_, _, rfl⟩

set_option maxRecDepth 100000 in
set_option maxHeartbeats 400000 in
theorem value_any (re im kind : Int) (w : World) : Calls Try.prog 14 #[.agg #[.int .i64 re, .int .i64 im, .int .i64 kind]] w fun e w' => ∃ x y, e = .returned (cx x y) ∧ Num x y (plR re im kind) (plI re im kind) ∧ Below w.heap.size w w' := by
  have hb0 := (Below.refl w.heap.size w).alloc (Nat.le_refl _) (Obj.cells #[Value.int .i64 re, Value.int .i64 im, Value.int .i64 kind] 24)
  by_cases k1 : kind = 1
  · subst k1
    obtain ⟨x, hx, hbad⟩ := add_half re
    have ha : ∀ w, (binOp .add 59 (.float .f64 (floatOfInt .f64 re)) (.float .f64 4602678819172646912)).run Try.prog w = .ok (.float .f64 x) w := fun w => run_float_arith w .add 59 .f64 _ _ _ hx
    go_enter Try.func14, Try.ntmps14
    go_wp2
    go_ret
    exact ⟨_, _, rfl, by rw [(plR_12 (.inl rfl)).1, (plR_12 (.inl rfl)).2]; exact num_bad1 rightB_far hbad, hb0⟩
  · have h1 : (kind == 1) = false := by simpa using k1
    by_cases k2 : kind = 2
    · subst k2
      obtain ⟨y, hn, hq⟩ := nan_new (w.alloc (Obj.cells #[Value.int .i64 re, Value.int .i64 im, Value.int .i64 2] 24))
      go_enter Try.func14, Try.ntmps14
      go_wp2
      go_ret
      exact ⟨_, _, rfl, by rw [(plR_12 (.inr rfl)).1, (plR_12 (.inr rfl)).2]; exact num_bad2 rightB_far (nan_bad hn), hb0.drew⟩
    · have h2 : (kind == 2) = false := by simpa using k2
      go_enter Try.func14, Try.ntmps14
      go_wp2
      go_ret
      exact ⟨_, _, rfl, by rw [(plR_0 (by omega)).1, (plR_0 (by omega)).2]; exact num_ints re im, hb0⟩
end Go.Proofs.Ytbgllbjkmjlipaa
