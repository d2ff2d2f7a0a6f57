/- Contracts: between, the document's Fence. -/
import Derived.Test.YtbgllbjkmjlipaaW4
namespace Go.Proofs.Ytbgllbjkmjlipaa
open Go.RowKit Go.Shelf
attribute [local go_sem] fmt64
attribute [local go_sem ↓] st39
attribute [local go_sem] st39_run World.setRow_alloc_new rr39

def btB (n a b : Int) : Bool := (decide (a ≤ n) && decide (n ≤ b)) || (decide (b ≤ n) && decide (n ≤ a))
theorem between_any (n a b : Int) (w : World) : Calls Try.prog 50 #[.int .i64 n, .int .i64 a, .int .i64 b] w fun e w' => e = .returned (.bool (btB n a b)) ∧ w = w' := by
  unfold btB
  cases c1 : decide (a ≤ n) <;> cases c2 : decide (n ≤ b) <;> cases c3 : decide (b ≤ n) <;> cases c4 : decide (n ≤ a)
  all_goals
    go_enter Try.func50, Try.ntmps50
    go_wp2
    go_ret
    exact ⟨rfl, rfl⟩

def onP (u v : Int) (a b : Int × Int) : Bool := onB (a.1 - u) (a.2 - v) (b.1 - u) (b.2 - v)
def flipP (u v : Int) (a b : Int × Int) : Bool := flipB (a.1 - u) (a.2 - v) (b.1 - u) (b.2 - v)
def anyK (u v : Int) (f g : Nat → Int × Int) : Nat → Bool
  | 0 => false
  | k + 1 => anyK u v f g k || onP u v (f k) (g k)
def oddK (u v : Int) (f g : Nat → Int × Int) : Nat → Bool
  | 0 => false
  | k + 1 => oddK u v f g k ^^ flipP u v (f k) (g k)
theorem anyK_yes {u v : Int} {f g : Nat → Int × Int} {n k : Nat} (hk : k < n) (h : onP u v (f k) (g k) = true) : anyK u v f g n = true := by
  induction n with
  | zero => omega
  | succ m ih =>
    rw [anyK]
    by_cases c : k = m
    · subst c; rw [h, Bool.or_true]
    · rw [ih (by omega), Bool.true_or]
theorem prod_bt {x y : Int} : x * y ≤ 0 ↔ (x ≤ 0 ∧ 0 ≤ y) ∨ (y ≤ 0 ∧ 0 ≤ x) := by
  constructor
  · intro h
    rcases Int.lt_trichotomy x 0 with hx | hx | hx
    · rcases Int.lt_trichotomy y 0 with hy | hy | hy
      · have := Int.mul_pos_of_neg_of_neg hx hy; omega
      · omega
      · omega
    · omega
    · rcases Int.lt_trichotomy y 0 with hy | hy | hy
      · omega
      · omega
      · have := Int.mul_pos hx hy; omega
  · rintro (⟨h1, h2⟩ | ⟨h1, h2⟩)
    · exact Int.mul_nonpos_of_nonpos_of_nonneg h1 h2
    · rw [Int.mul_comm]; exact Int.mul_nonpos_of_nonpos_of_nonneg h1 h2
theorem bt_prod (u a b : Int) : btB u a b = decide ((a - u) * (b - u) ≤ 0) := by
  unfold btB
  rw [← Bool.decide_and, ← Bool.decide_and, ← Bool.decide_or]
  congr 1
  rw [prod_bt]
  exact propext (by constructor <;> (rintro (h | h) <;> omega))
/-- left less right is the cross, below nought. -/
theorem cross_lr (u v ar ai br bi : Int) : (u - ar) * (bi - ai) - (br - ar) * (v - ai) = -((ar - u) * (bi - v) - (ai - v) * (br - u)) := by
  have e1 : u - ar = -(ar - u) := by omega
  have e2 : bi - ai = (bi - v) - (ai - v) := by omega
  have e3 : br - ar = (br - u) - (ar - u) := by omega
  have e4 : v - ai = -(ai - v) := by omega
  rw [e1, e2, e3, e4]
  generalize ar - u = A
  generalize ai - v = B
  generalize br - u = C
  generalize bi - v = D
  rw [Int.neg_mul, Int.mul_sub, Int.mul_neg, Int.sub_mul, Int.mul_comm C B]
  omega
theorem ref_on (u v ar ai br bi : Int) : onP u v (ar, ai) (br, bi) = (((u - ar) * (bi - ai) == (br - ar) * (v - ai)) && btB u ar br && btB v ai bi) := by
  unfold onP onB
  have h := cross_lr u v ar ai br bi
  rw [bt_prod, bt_prod]
  show decide ((ar - u) * (bi - v) - (ai - v) * (br - u) = 0 ∧ (ar - u) * (br - u) ≤ 0 ∧ (ai - v) * (bi - v) ≤ 0) = _
  rw [show ((u - ar) * (bi - ai) == (br - ar) * (v - ai)) = decide ((ar - u) * (bi - v) - (ai - v) * (br - u) = 0) by
    rw [Bool.eq_iff_iff, beq_iff_eq, decide_eq_true_eq]; omega]
  rw [← Bool.decide_and, ← Bool.decide_and]
  congr 1
  exact propext (by rw [and_assoc])
theorem ref_flip (u v ar ai br bi : Int) (hon : onP u v (ar, ai) (br, bi) = false) :
    flipP u v (ar, ai) (br, bi) = ((decide (v < ai) != decide (v < bi)) && ((decide (ai < bi) && decide ((u - ar) * (bi - ai) < (br - ar) * (v - ai))) || (decide (bi < ai) && decide ((br - ar) * (v - ai) < (u - ar) * (bi - ai))))) := by
  have h := cross_lr u v ar ai br bi
  have hon' : ¬ ((ar - u) * (bi - v) - (ai - v) * (br - u) = 0 ∧ (ar - u) * (br - u) ≤ 0 ∧ (ai - v) * (bi - v) ≤ 0) := of_decide_eq_false hon
  unfold flipP flipB
  show ((decide (0 < bi - v) != decide (0 < ai - v)) && (decide (0 < bi - v) == decide (0 < (ar - u) * (bi - v) - (ai - v) * (br - u)))) = _
  generalize (u - ar) * (bi - ai) = L at *
  generalize (br - ar) * (v - ai) = Rt at *
  by_cases c1 : v < ai
  · by_cases c2 : v < bi
    · simp [c1, c2]
    · have e0 : ¬ ((ar - u) * (bi - v) - (ai - v) * (br - u) = 0) := by
        intro e
        refine hon' ⟨e, ?_, ?_⟩
        · -- the two lie on one line through nought, one above, one not above
          have hA : 0 < ai - v := by omega
          have hB : bi - v ≤ 0 := by omega
          generalize ar - u = A at *
          generalize ai - v = B at *
          generalize br - u = C at *
          generalize bi - v = D at *
          have e1 : A * D = B * C := by omega
          rw [prod_bt]
          rcases Int.lt_trichotomy A 0 with hA0 | hA0 | hA0
          · left
            refine ⟨by omega, ?_⟩
            have : 0 ≤ A * D := Int.mul_nonneg_of_nonpos_of_nonpos (by omega) hB
            rw [e1] at this
            exact Int.le_of_mul_le_mul_left (by simpa using this) hA
          · omega
          · right
            refine ⟨?_, by omega⟩
            have : A * D ≤ 0 := Int.mul_nonpos_of_nonneg_of_nonpos (by omega) hB
            rw [e1] at this
            exact Int.le_of_mul_le_mul_left (by simpa using this) hA
        · exact Int.mul_nonpos_of_nonneg_of_nonpos (by omega) (by omega)
      generalize (ar - u) * (bi - v) - (ai - v) * (br - u) = X at *
      by_cases c3 : 0 < X
      · simp [c1, c2, c3, show ¬ ai < bi by omega, show bi < ai by omega]
        omega
      · simp [c1, c2, c3, show ¬ ai < bi by omega, show bi < ai by omega]
        omega
  · by_cases c2 : v < bi
    · generalize (ar - u) * (bi - v) - (ai - v) * (br - u) = X at *
      by_cases c3 : 0 < X
      · simp [c1, c2, c3, show ai < bi by omega, show ¬ bi < ai by omega]
        omega
      · simp [c1, c2, c3, show ai < bi by omega, show ¬ bi < ai by omega]
        omega
    · simp [c1, c2]
end Go.Proofs.Ytbgllbjkmjlipaa
