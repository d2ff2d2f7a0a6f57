/- Contracts: Body, World. -/
import Derived.Test.YtbgllbjkmjlipaaH
import Derived.Test.YtbgllbjkmjlipaaF5
namespace Go.Proofs.Ytbgllbjkmjlipaa
open Go.RowKit
attribute [local go_sem] fmt64

/-- A small whole number: of at most 22 bits. -/
theorem right_bd {R I : Int} (h : rightB R I = true) : R.natAbs < 1048576 ∧ I.natAbs < 1048576 := by
  have := of_decide_eq_true h; omega
theorem nose_bd {N M : Int} (h : noseB N M = true) : rightB N M = true := by
  have := of_decide_eq_true h
  exact decide_eq_true (by omega)
theorem num_right {x y : Nat} {R I : Int} (h : Num x y R I) (hr : rightB R I = true) : x = wd false R ∧ y = wd false I := by
  rcases h with ⟨_, h⟩ | ⟨h, _⟩
  · exact h
  · rw [hr] at h; cases h
theorem ck_ok {R I S J N M : Int} (h : ckF R I S J N M = 0) : rightB R I = true ∧ rightB S J = true ∧ noseB N M = true := by
  unfold ckF at h
  split at h
  · rename_i h1
    split at h
    · rename_i h2; exact ⟨h1.1, h1.2, h2⟩
    · cases h
  · cases h
abbrev pairC (x y : Nat) (e : Int) : Value := .tuple #[cx x y, .int .i64 e]

set_option maxRecDepth 100000 in
theorem body_no (x1 y1 x2 y2 x3 y3 x y : Nat) (c : Int) (hc : ∀ w, Calls Try.prog 29 #[ps x1 y1 x2 y2 x3 y3] w fun e w' => e = .returned (.int .i64 c) ∧ Below w.heap.size w w') (h0 : c ≠ 0) (w : World) :
    Calls Try.prog 21 #[ps x1 y1 x2 y2 x3 y3, cx x y] w fun e w' => e = .returned (pairC 0 0 c) ∧ Below w.heap.size w w' := by
  have e1 : (c != 0) = true := by simp [bne, h0]
  have hb0 := (Below.refl w.heap.size w).alloc (Nat.le_refl _) (Obj.cells #[Value.complex .f64 x1 y1, Value.complex .f64 x2 y2, Value.complex .f64 x3 y3] 45)
  clear h0
  go_enter Try.func21, Try.ntmps21
  go_wp2_with fail
  refine (hc _).mono ?_
  rintro e w1 ⟨rfl, hb1⟩
  have hb01 := hb0.trans (hb1.mono hb0.size)
  go_wp2
  go_ret2
  exact ⟨rfl, hb01⟩
set_option maxRecDepth 100000 in
theorem body_bad (x1 y1 x2 y2 x3 y3 x y : Nat) (hc : ∀ w, Calls Try.prog 29 #[ps x1 y1 x2 y2 x3 y3] w fun e w' => e = .returned (.int .i64 0) ∧ Below w.heap.size w w') (hm : mayZ x y = false) (w : World) :
    Calls Try.prog 21 #[ps x1 y1 x2 y2 x3 y3, cx x y] w fun e w' => e = .returned (pairC 0 0 10) ∧ Below w.heap.size w w' := by
  have ha := may_any x y
  rw [hm] at ha
  have hb0 := (Below.refl w.heap.size w).alloc (Nat.le_refl _) (Obj.cells #[Value.complex .f64 x1 y1, Value.complex .f64 x2 y2, Value.complex .f64 x3 y3] 45)
  clear hm
  go_enter Try.func21, Try.ntmps21
  go_wp2_with fail
  refine (hc _).mono ?_
  rintro e w1 ⟨rfl, hb1⟩
  have hb01 := hb0.trans (hb1.mono hb0.size)
  clear hb1
  go_wp2_with fail
  refine (ha _).mono ?_
  rintro e w2 ⟨rfl, hb2⟩
  have hb02 := hb01.trans (hb2.mono hb01.size)
  go_wp2
  go_ret2
  exact ⟨rfl, hb02⟩
set_option maxRecDepth 100000 in
set_option maxHeartbeats 1000000 in
theorem body_ok (R I S J N M a b : Int) (h1 : rightB R I = true) (h2 : rightB S J = true) (h3 : noseB N M = true) (h4 : rightB a b = true) (w : World) :
    Calls Try.prog 21 #[ps (wd false R) (wd false I) (wd false S) (wd false J) (wd false N) (wd false M), cx (wd false a) (wd false b)] w fun e w' => e = .returned (toldV ((a - R) * N - (b - I) * -M) ((a - R) * -M + (b - I) * N)) ∧ Below w.heap.size w w' := by
  have hN := right_bd (nose_bd h3)
  have hR := right_bd h1
  have hA := right_bd h4
  have hc := check_any (wd false R) (wd false I) (wd false S) (wd false J) (wd false N) (wd false M) R I S J N M (.inl ⟨h1, rfl, rfl⟩) (.inl ⟨h2, rfl, rfl⟩) (.inl ⟨nose_bd h3, rfl, rfl⟩)
  rw [ck_yes h1 h2, h3, if_pos rfl] at hc
  have hm := may_any (wd false a) (wd false b)
  rw [may_wd _ _ _ _ (by omega) (by omega), h4] at hm
  obtain ⟨s1, t1, hsub⟩ := cSum_sub false false false false a b R I (by omega) (by omega) (by omega) (by omega)
  have rsub : ∀ w, (binOp .sub 31 (.complex .f64 (wd false a) (wd false b)) (.complex .f64 (wd false R) (wd false I))).run Try.prog w = .ok (.complex .f64 (wd s1 (a - R)) (wd t1 (b - I))) w := fun w => run_complex_sum w .sub (.inr rfl) 31 .f64 _ _ _ _ _ _ hsub
  have hneg : Op.negFloat .f64 (wd false M) = wd true (-M) := neg_wd false M (by omega)
  have rneg : ∀ w, (Op.unary .neg (.float .f64 (wd false M))).run Try.prog w = .ok (.float .f64 (wd true (-M))) w := fun w => by simp [Op.unary, hneg]
  obtain ⟨s2, t2, hmul⟩ := cMul_wd s1 t1 false true (a - R) (b - I) N (-M) (by omega) (by omega) (by omega) (by omega)
  have rmul : ∀ w, (binOp .mul 31 (.complex .f64 (wd s1 (a - R)) (wd t1 (b - I))) (.complex .f64 (wd false N) (wd true (-M)))).run Try.prog w = .ok (.complex .f64 (wd s2 ((a - R) * N - (b - I) * -M)) (wd t2 ((a - R) * -M + (b - I) * N))) w := fun w => run_complex_mul w 31 _ _ _ _ _ _ hmul
  have b1 := mul_bd (a := a - R) (c := N) (by omega) (by omega)
  have b2 := mul_bd (a := b - I) (c := -M) (by omega) (by omega)
  have b3 := mul_bd (a := a - R) (c := -M) (by omega) (by omega)
  have b4 := mul_bd (a := b - I) (c := N) (by omega) (by omega)
  have ht := ntold_any s2 t2 ((a - R) * N - (b - I) * -M) ((a - R) * -M + (b - I) * N) (by omega) (by omega)
  clear hsub hmul b1 b2 b3 b4 h1 h2 h3 h4
  generalize (a - R) * N - (b - I) * -M = X at rmul ht ⊢
  generalize (a - R) * -M + (b - I) * N = Y at rmul ht ⊢
  have hv : toldV X Y = pairC (if rightB X Y then wd false X else 0) (if rightB X Y then wd false Y else 0) (if rightB X Y then 0 else 10) := by unfold toldV; split <;> rfl
  rw [hv] at ht ⊢
  generalize (if rightB X Y then wd false X else 0) = p at ht ⊢
  generalize (if rightB X Y then wd false Y else 0) = q at ht ⊢
  generalize (if rightB X Y then (0 : Int) else 10) = c at ht ⊢
  have hb0 := (Below.refl w.heap.size w).alloc (Nat.le_refl _) (Obj.cells #[Value.complex .f64 (wd false R) (wd false I), Value.complex .f64 (wd false S) (wd false J), Value.complex .f64 (wd false N) (wd false M)] 45)
  have hc1 := heap_alloc_new w (Obj.cells #[Value.complex .f64 (wd false R) (wd false I), Value.complex .f64 (wd false S) (wd false J), Value.complex .f64 (wd false N) (wd false M)] 45)
  go_enter Try.func21, Try.ntmps21
  go_wp2_with fail
  refine (hc _).mono ?_
  rintro e w1 ⟨rfl, hb1⟩
  have hb01 := hb0.trans (hb1.mono hb0.size)
  have hrow := (hb1.block w.heap.size (by simp)).trans hc1
  have hlt : w.heap.size < w1.heap.size := by have := hb1.size; simp at this; omega
  clear hb1
  go_wp2_with fail
  refine (hm _).mono ?_
  rintro e w2 ⟨rfl, hb2⟩
  have hb02 := hb01.trans (hb2.mono hb01.size)
  have hrow2 := (hb2.block w.heap.size hlt).trans hrow
  have a0 := cell_of_row w2 w.heap.size 0 _ _ _ hrow2
  have a2 := cell_of_row w2 w.heap.size 2 _ _ _ hrow2
  simp only [List.getElem?_toArray, List.getElem?_cons_succ, List.getElem?_cons_zero] at a0 a2
  clear hb2 hrow hrow2 hc1
  go_wp2_with fail
  refine (ht _).mono ?_
  rintro e w3 ⟨rfl, hb3⟩
  have hb03 := hb02.trans (hb3.mono hb02.size)
  go_wp2
  go_ret2
  exact ⟨rfl, hb03⟩
end Go.Proofs.Ytbgllbjkmjlipaa
