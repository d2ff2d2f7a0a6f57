/- The plain law of fences: begun elsewhere, the other way round, moved, turned; and each point lies on the edge. -/
import Derived.Test.YtbgllbjkmjlipaaW7
namespace Go.Proofs.Ytbgllbjkmjlipaa

/-- Within a fence, or on its edge. -/
def fenF (f : Nat → Int × Int) (n : Nat) (u v : Int) : Bool := anyK u v f (fun k => f (nxt n k)) n || oddK u v f (fun k => f (nxt n k)) n
theorem fenF_or (f : Nat → Int × Int) (n : Nat) (u v : Int) : fenF f n u v = (orK (fun k => onP u v (f k) (f (nxt n k))) n || xrK (fun k => flipP u v (f k) (f (nxt n k))) n) := by
  unfold fenF; rw [any_orK, odd_xrK]
theorem orK_yes {F : Nat → Bool} {n k : Nat} (hk : k < n) (h : F k = true) : orK F n = true := by
  induction n with
  | zero => omega
  | succ m ih =>
    rw [orK]
    by_cases c : k = m
    · subst c; rw [h, Bool.or_true]
    · rw [ih (by omega), Bool.true_or]
theorem orK_no {F : Nat → Bool} {n k : Nat} (h : orK F n = false) (hk : k < n) : F k = false := by
  cases c : F k with
  | false => rfl
  | true => rw [orK_yes hk c] at h; cases h
theorem onP_self (u v : Int) (b : Int × Int) : onP u v (u, v) b = true := by
  unfold onP onB
  exact decide_eq_true ⟨by simp, by simp, by simp⟩
theorem fenF_at (f : Nat → Int × Int) (n k : Nat) (hk : k < n) : fenF f n (f k).1 (f k).2 = true := by
  rw [fenF_or, orK_yes hk (onP_self (f k).1 (f k).2 _), Bool.true_or]

/-! begun elsewhere -/
theorem orK_rot1 (F : Nat → Bool) (m : Nat) : orK (fun k => F ((k + 1) % (m + 1))) (m + 1) = orK F (m + 1) := by
  rw [orK_shift F, orK, Nat.mod_self]
  rw [orK_congr (G := fun k => F (k + 1)) (fun k hk => by rw [Nat.mod_eq_of_lt (by omega)])]
theorem xrK_rot1 (F : Nat → Bool) (m : Nat) : xrK (fun k => F ((k + 1) % (m + 1))) (m + 1) = xrK F (m + 1) := by
  rw [xrK_shift F, xrK, Nat.mod_self]
  rw [xrK_congr (G := fun k => F (k + 1)) (fun k hk => by rw [Nat.mod_eq_of_lt (by omega)])]
theorem orK_rot (F : Nat → Bool) (m s : Nat) : orK (fun k => F ((k + s) % (m + 1))) (m + 1) = orK F (m + 1) := by
  induction s with
  | zero => exact orK_congr fun k hk => by rw [Nat.add_zero, Nat.mod_eq_of_lt hk]
  | succ s ih =>
    rw [← ih, ← orK_rot1 (fun k => F ((k + s) % (m + 1)))]
    exact orK_congr fun k _ => by rw [Nat.mod_add_mod, show k + 1 + s = k + (s + 1) by omega]
theorem xrK_rot (F : Nat → Bool) (m s : Nat) : xrK (fun k => F ((k + s) % (m + 1))) (m + 1) = xrK F (m + 1) := by
  induction s with
  | zero => exact xrK_congr fun k hk => by rw [Nat.add_zero, Nat.mod_eq_of_lt hk]
  | succ s ih =>
    rw [← ih, ← xrK_rot1 (fun k => F ((k + s) % (m + 1)))]
    exact xrK_congr fun k _ => by rw [Nat.mod_add_mod, show k + 1 + s = k + (s + 1) by omega]
theorem nxt_rot (m s k : Nat) : (nxt (m + 1) k + s) % (m + 1) = nxt (m + 1) ((k + s) % (m + 1)) := by
  unfold nxt
  rw [Nat.mod_add_mod, Nat.mod_add_mod, show k + 1 + s = k + s + 1 by omega]
theorem fenF_rot (f : Nat → Int × Int) (m s : Nat) (u v : Int) : fenF (fun k => f ((k + s) % (m + 1))) (m + 1) u v = fenF f (m + 1) u v := by
  rw [fenF_or, fenF_or]
  rw [← orK_rot (fun k => onP u v (f k) (f (nxt (m + 1) k))) m s, ← xrK_rot (fun k => flipP u v (f k) (f (nxt (m + 1) k))) m s]
  rw [orK_congr (fun k _ => by rw [nxt_rot]), xrK_congr (fun k _ => by rw [nxt_rot])]

/-! the other way round -/
theorem onP_comm (u v : Int) (a b : Int × Int) : onP u v a b = onP u v b a := by
  unfold onP onB
  congr 1
  generalize a.1 - u = A
  generalize a.2 - v = B
  generalize b.1 - u = C
  generalize b.2 - v = D
  rw [Int.mul_comm C B, Int.mul_comm D A, Int.mul_comm C A, Int.mul_comm D B]
  exact propext (by constructor <;> (rintro ⟨h1, h2, h3⟩; exact ⟨by omega, h2, h3⟩))
/-- What is not on the edge, the one above nought, the other not: it is not nought to its left. -/
theorem cross_ne {A B C D : Int} (hon : onB A B C D = false) (h : (0 < B ∧ D ≤ 0) ∨ (0 < D ∧ B ≤ 0)) : A * D - B * C ≠ 0 := by
  intro e
  have hon' : ¬ (A * D - B * C = 0 ∧ A * C ≤ 0 ∧ B * D ≤ 0) := of_decide_eq_false hon
  have e1 : A * D = B * C := by omega
  refine hon' ⟨e, ?_, ?_⟩
  · rw [prod_bt]
    rcases h with ⟨hB, hD⟩ | ⟨hD, hB⟩
    · rcases Int.lt_trichotomy A 0 with hA0 | hA0 | hA0
      · left
        refine ⟨by omega, ?_⟩
        have : 0 ≤ A * D := Int.mul_nonneg_of_nonpos_of_nonpos (by omega) hD
        rw [e1] at this
        exact Int.le_of_mul_le_mul_left (by simpa using this) hB
      · omega
      · right
        refine ⟨?_, by omega⟩
        have : A * D ≤ 0 := Int.mul_nonpos_of_nonneg_of_nonpos (by omega) hD
        rw [e1] at this
        exact Int.le_of_mul_le_mul_left (by simpa using this) hB
    · rcases Int.lt_trichotomy C 0 with hC0 | hC0 | hC0
      · right
        refine ⟨by omega, ?_⟩
        have : 0 ≤ B * C := Int.mul_nonneg_of_nonpos_of_nonpos hB (by omega)
        rw [← e1, Int.mul_comm] at this
        exact Int.le_of_mul_le_mul_left (by simpa using this) hD
      · omega
      · left
        refine ⟨?_, by omega⟩
        have : B * C ≤ 0 := by rw [Int.mul_comm]; exact Int.mul_nonpos_of_nonneg_of_nonpos (by omega) hB
        rw [← e1, Int.mul_comm] at this
        exact Int.le_of_mul_le_mul_left (by simpa using this) hD
  · rw [prod_bt]; omega
theorem flipP_comm (u v : Int) (a b : Int × Int) (hon : onP u v a b = false) : flipP u v a b = flipP u v b a := by
  unfold onP at hon
  unfold flipP flipB
  generalize a.1 - u = A at *
  generalize a.2 - v = B at *
  generalize b.1 - u = C at *
  generalize b.2 - v = D at *
  have hx : C * B - D * A = -(A * D - B * C) := by rw [Int.mul_comm C B, Int.mul_comm D A]; omega
  rw [hx]
  by_cases c1 : 0 < B
  · by_cases c2 : 0 < D
    · simp [c1, c2]
    · have hne := cross_ne hon (.inl ⟨c1, by omega⟩)
      generalize A * D - B * C = X at *
      by_cases c3 : 0 < X
      · simp [c1, c2, c3]; omega
      · simp [c1, c2, c3]; omega
  · by_cases c2 : 0 < D
    · have hne := cross_ne hon (.inr ⟨c2, by omega⟩)
      generalize A * D - B * C = X at *
      by_cases c3 : 0 < X
      · simp [c1, c2, c3]; omega
      · simp [c1, c2, c3]; omega
    · simp [c1, c2]
theorem orK_rev (F : Nat → Bool) (m : Nat) : orK (fun k => F (m - 1 - k)) m = orK F m := by
  induction m generalizing F with
  | zero => rfl
  | succ m ih =>
    rw [orK_shift F, orK, ← ih (fun k => F (k + 1))]
    rw [show m + 1 - 1 - m = 0 by omega]
    rw [orK_congr (F := fun k => F (m + 1 - 1 - k)) (G := fun k => F (m - 1 - k + 1)) (fun k hk => by rw [show m + 1 - 1 - k = m - 1 - k + 1 by omega])]
theorem xrK_rev (F : Nat → Bool) (m : Nat) : xrK (fun k => F (m - 1 - k)) m = xrK F m := by
  induction m generalizing F with
  | zero => rfl
  | succ m ih =>
    rw [xrK_shift F, xrK, ← ih (fun k => F (k + 1))]
    rw [show m + 1 - 1 - m = 0 by omega]
    rw [xrK_congr (F := fun k => F (m + 1 - 1 - k)) (G := fun k => F (m - 1 - k + 1)) (fun k hk => by rw [show m + 1 - 1 - k = m - 1 - k + 1 by omega])]
theorem fenF_rev (f : Nat → Int × Int) (m : Nat) (u v : Int) : fenF (fun k => f (m - k)) (m + 1) u v = fenF f (m + 1) u v := by
  have hn : ∀ k, k < m → nxt (m + 1) k = k + 1 := fun k hk => Nat.mod_eq_of_lt (by omega)
  have hnm : nxt (m + 1) m = 0 := Nat.mod_self _
  have ho : orK (fun k => onP u v (f (m - k)) (f (m - nxt (m + 1) k))) (m + 1) = orK (fun k => onP u v (f k) (f (nxt (m + 1) k))) (m + 1) := by
    rw [orK, orK, hnm, ← orK_rev (fun k => onP u v (f k) (f (nxt (m + 1) k))) m]
    rw [orK_congr (F := fun k => onP u v (f (m - k)) (f (m - nxt (m + 1) k))) (G := fun k => onP u v (f (m - 1 - k)) (f (nxt (m + 1) (m - 1 - k)))) (fun k hk => by
      rw [hn k hk, hn _ (by omega), onP_comm, show m - (k + 1) = m - 1 - k by omega, show m - k = m - 1 - k + 1 by omega])]
    rw [Nat.sub_self, Nat.sub_zero, onP_comm]
  rw [fenF_or, fenF_or, ho]
  cases hq : orK (fun k => onP u v (f k) (f (nxt (m + 1) k))) (m + 1) with
  | true => rfl
  | false =>
    congr 1
    have hno : ∀ k, k < m + 1 → onP u v (f k) (f (nxt (m + 1) k)) = false := fun k hk => orK_no hq hk
    rw [xrK, xrK, hnm, ← xrK_rev (fun k => flipP u v (f k) (f (nxt (m + 1) k))) m]
    rw [xrK_congr (F := fun k => flipP u v (f (m - k)) (f (m - nxt (m + 1) k))) (G := fun k => flipP u v (f (m - 1 - k)) (f (nxt (m + 1) (m - 1 - k)))) (fun k hk => by
      have h1 := hno (m - 1 - k) (by omega)
      rw [hn _ (by omega)] at h1
      rw [hn k hk, hn _ (by omega), show m - (k + 1) = m - 1 - k by omega, show m - k = m - 1 - k + 1 by omega, flipP_comm u v _ _ h1])]
    have h2 := hno m (by omega)
    rw [hnm] at h2
    rw [Nat.sub_self, Nat.sub_zero, flipP_comm u v _ _ h2]

/-! moved with the point -/
theorem fenF_move (f : Nat → Int × Int) (n : Nat) (u v c d : Int) : fenF (fun k => ((f k).1 + c, (f k).2 + d)) n (u + c) (v + d) = fenF f n u v := by
  have e : ∀ x y z : Int, x + z - (y + z) = x - y := fun x y z => by omega
  rw [fenF_or, fenF_or]
  rw [orK_congr (G := fun k => onP u v (f k) (f (nxt n k))) (fun k _ => by unfold onP; simp only [e]), xrK_congr (G := fun k => flipP u v (f k) (f (nxt n k))) (fun k _ => by unfold flipP; simp only [e])]

/-! turned with it -/
theorem xrK_xor (F G : Nat → Bool) (n : Nat) : xrK (fun k => F k ^^ G k) n = (xrK F n ^^ xrK G n) := by
  induction n with
  | zero => rfl
  | succ m ih => rw [xrK, xrK, xrK, ih]; cases xrK F m <;> cases xrK G m <;> cases F m <;> cases G m <;> rfl
/-- Between the two rays. -/
def secB (A B : Int) : Bool := decide (0 < A) && !decide (0 < B)
theorem on_turn (A B C D : Int) : onB (-B) A (-D) C = onB A B C D := by
  unfold onB
  congr 1
  rw [Int.neg_mul, Int.neg_mul_neg, Int.mul_neg]
  exact propext (by constructor <;> (rintro ⟨h1, h2, h3⟩; exact ⟨by omega, h3, h2⟩))
theorem flip_turn (A B C D : Int) (hon : onB A B C D = false) : (flipB (-B) A (-D) C ^^ flipB A B C D) = (secB A B ^^ secB C D) := by
  have hx : -B * C - A * -D = A * D - B * C := by rw [Int.neg_mul, Int.mul_neg]; omega
  unfold flipB secB
  rw [hx]
  have key : ∀ pA pB pC pD c : Bool, (pA = pC → pB ≠ pD → (pD == c) = pA) → (pB = pD → pA ≠ pC → (pC == c) = !pB) →
      ((((pC != pA) && (pC == c)) ^^ ((pD != pB) && (pD == c))) = ((pA && !pB) ^^ (pC && !pD))) := by decide
  refine key _ _ _ _ _ (fun h1 h2 => ?_) (fun h1 h2 => ?_)
  · -- one above, one not: both to the right, or both not
    by_cases cA : 0 < A
    · have cC : 0 < C := by by_cases h : 0 < C; exact h; simp [cA, h] at h1
      by_cases cB : 0 < B
      · have cD : ¬ 0 < D := fun h => h2 (by simp [cB, h])
        have e1 : A * D ≤ 0 := Int.mul_nonpos_of_nonneg_of_nonpos (by omega) (by omega)
        have e2 : 0 < B * C := Int.mul_pos cB cC
        simp [cA, cD]; omega
      · have cD : 0 < D := by by_cases h : 0 < D; exact h; exact (h2 (by simp [cB, h])).elim
        have e1 : 0 < A * D := Int.mul_pos cA cD
        have e2 : B * C ≤ 0 := Int.mul_nonpos_of_nonpos_of_nonneg (by omega) (by omega)
        simp [cA, cD]; omega
    · have cC : ¬ 0 < C := fun h => by simp [cA, h] at h1
      by_cases cB : 0 < B
      · have cD : ¬ 0 < D := fun h => h2 (by simp [cB, h])
        have hne := cross_ne hon (.inl ⟨cB, by omega⟩)
        have e1 : 0 ≤ A * D := Int.mul_nonneg_of_nonpos_of_nonpos (by omega) (by omega)
        have e2 : B * C ≤ 0 := Int.mul_nonpos_of_nonneg_of_nonpos (by omega) (by omega)
        simp [cA, cD]; omega
      · have cD : 0 < D := by by_cases h : 0 < D; exact h; exact (h2 (by simp [cB, h])).elim
        have e1 : A * D ≤ 0 := Int.mul_nonpos_of_nonpos_of_nonneg (by omega) (by omega)
        have e2 : 0 ≤ B * C := Int.mul_nonneg_of_nonpos_of_nonpos (by omega) (by omega)
        simp [cA, cD]; omega
  · have hon2 : onB (-B) A (-D) C = false := by rw [on_turn]; exact hon
    by_cases cB : 0 < B
    · have cD : 0 < D := by by_cases h : 0 < D; exact h; simp [cB, h] at h1
      by_cases cA : 0 < A
      · have cC : ¬ 0 < C := fun h => h2 (by simp [cA, h])
        have e1 : 0 < A * D := Int.mul_pos cA cD
        have e2 : B * C ≤ 0 := Int.mul_nonpos_of_nonneg_of_nonpos (by omega) (by omega)
        simp [cB, cC]; omega
      · have cC : 0 < C := by by_cases h : 0 < C; exact h; exact (h2 (by simp [cA, h])).elim
        have e1 : A * D ≤ 0 := Int.mul_nonpos_of_nonpos_of_nonneg (by omega) (by omega)
        have e2 : 0 < B * C := Int.mul_pos cB cC
        simp [cB, cC]; omega
    · have cD : ¬ 0 < D := fun h => by simp [cB, h] at h1
      by_cases cA : 0 < A
      · have cC : ¬ 0 < C := fun h => h2 (by simp [cA, h])
        have hne := cross_ne hon2 (.inl ⟨cA, by omega⟩)
        have e1 : A * D ≤ 0 := Int.mul_nonpos_of_nonneg_of_nonpos (by omega) (by omega)
        have e2 : 0 ≤ B * C := Int.mul_nonneg_of_nonpos_of_nonpos (by omega) (by omega)
        rw [hx] at hne
        simp [cB, cC]; omega
      · have cC : 0 < C := by by_cases h : 0 < C; exact h; exact (h2 (by simp [cA, h])).elim
        have hne := cross_ne hon2 (.inr ⟨cC, by omega⟩)
        have e1 : 0 ≤ A * D := Int.mul_nonneg_of_nonpos_of_nonpos (by omega) (by omega)
        have e2 : B * C ≤ 0 := Int.mul_nonpos_of_nonpos_of_nonneg (by omega) (by omega)
        rw [hx] at hne
        simp [cB, cC]; omega
theorem fenF_turn (f : Nat → Int × Int) (m : Nat) (u v : Int) : fenF (fun k => (-(f k).2, (f k).1)) (m + 1) (-v) u = fenF f (m + 1) u v := by
  have e : ∀ x y : Int, -x - -y = -(x - y) := fun x y => by omega
  have ho : orK (fun k => onP (-v) u (-(f k).2, (f k).1) (-(f (nxt (m + 1) k)).2, (f (nxt (m + 1) k)).1)) (m + 1) = orK (fun k => onP u v (f k) (f (nxt (m + 1) k))) (m + 1) :=
    orK_congr fun k _ => by unfold onP; simp only [e]; exact on_turn _ _ _ _
  rw [fenF_or, fenF_or, ho]
  cases hq : orK (fun k => onP u v (f k) (f (nxt (m + 1) k))) (m + 1) with
  | true => rfl
  | false =>
    congr 1
    have hno : ∀ k, k < m + 1 → onP u v (f k) (f (nxt (m + 1) k)) = false := fun k hk => orK_no hq hk
    have h1 : xrK (fun k => flipP (-v) u (-(f k).2, (f k).1) (-(f (nxt (m + 1) k)).2, (f (nxt (m + 1) k)).1) ^^ flipP u v (f k) (f (nxt (m + 1) k))) (m + 1) = false := by
      rw [xrK_congr (G := fun k => secB ((f k).1 - u) ((f k).2 - v) ^^ secB ((f (nxt (m + 1) k)).1 - u) ((f (nxt (m + 1) k)).2 - v)) (fun k hk => by
        unfold flipP; simp only [e]; exact flip_turn _ _ _ _ (hno k hk))]
      rw [xrK_xor]
      have h2 := xrK_rot1 (fun k => secB ((f k).1 - u) ((f k).2 - v)) m
      rw [show (fun k => secB ((f (nxt (m + 1) k)).1 - u) ((f (nxt (m + 1) k)).2 - v)) = fun k => secB ((f ((k + 1) % (m + 1))).1 - u) ((f ((k + 1) % (m + 1))).2 - v) from rfl, h2, Bool.xor_self]
    rw [xrK_xor] at h1
    revert h1
    generalize xrK (fun k => flipP (-v) u (-(f k).2, (f k).1) (-(f (nxt (m + 1) k)).2, (f (nxt (m + 1) k)).1)) (m + 1) = p
    generalize xrK (fun k => flipP u v (f k) (f (nxt (m + 1) k))) (m + 1) = q
    cases p <;> cases q <;> simp
end Go.Proofs.Ytbgllbjkmjlipaa
