/- Contract: Steer. -/
import Derived.Test.YtbgllbjkmjlipaaT
namespace Go.Proofs.Ytbgllbjkmjlipaa
open Go.RowKit
attribute [local go_sem] fmt64

def miF (a b : Int) : Int := if b < a then b else a
def mxF (a b : Int) : Int := if a < b then b else a
def cutF (n most : Int) : Int := if most < n then most else if n < -most then -most else n
theorem cut_eq (D M : Int) (hM : 0 ≤ M) : mxF (-M) (miF M D) = cutF D M := by
  unfold mxF miF cutF
  split <;> split <;> split <;> omega
theorem min_wd (z z' : Bool) (a b : Int) (ha : a.natAbs < 9007199254740992) (hb : b.natAbs < 9007199254740992) :
    ∃ s, ∀ (w : World) (ts : Array TypeId) (t : TypeId), (Builtin.min_ ts t #[.float .f64 (wd z a), .float .f64 (wd z' b)]).run Try.prog w = .ok (.float .f64 (wd s (miF a b))) w := by
  have ho : FloatKind.f64.format.order (wd z a) (wd z' b) = some (compare a b) := order_wd z z' a b ha hb
  rcases Int.lt_trichotomy a b with h | h | h
  · have hc : compare a b = .lt := Int.compare_eq_lt.2 h
    rw [hc] at ho
    exact ⟨z, fun w ts t => by simp [Builtin.min_, Builtin.min2, ho, miF, show ¬ b < a by omega]⟩
  · subst h
    have hc : compare a a = .eq := Int.compare_eq_eq.2 rfl
    rw [hc] at ho
    by_cases c : (FloatKind.f64.decode (wd z a)).neg = true
    · exact ⟨z, fun w ts t => by simp [Builtin.min_, Builtin.min2, ho, miF, c]⟩
    · exact ⟨z', fun w ts t => by simp [Builtin.min_, Builtin.min2, ho, miF, c]⟩
  · have hc : compare a b = .gt := Int.compare_eq_gt.2 h
    rw [hc] at ho
    exact ⟨z', fun w ts t => by simp [Builtin.min_, Builtin.min2, ho, miF, h]⟩
theorem max_wd (z z' : Bool) (a b : Int) (ha : a.natAbs < 9007199254740992) (hb : b.natAbs < 9007199254740992) :
    ∃ s, ∀ (w : World) (ts : Array TypeId) (t : TypeId), (Builtin.max_ ts t #[.float .f64 (wd z a), .float .f64 (wd z' b)]).run Try.prog w = .ok (.float .f64 (wd s (mxF a b))) w := by
  have ho : FloatKind.f64.format.order (wd z a) (wd z' b) = some (compare a b) := order_wd z z' a b ha hb
  rcases Int.lt_trichotomy a b with h | h | h
  · have hc : compare a b = .lt := Int.compare_eq_lt.2 h
    rw [hc] at ho
    exact ⟨z', fun w ts t => by simp [Builtin.max_, Builtin.max2, ho, mxF, h]⟩
  · subst h
    have hc : compare a a = .eq := Int.compare_eq_eq.2 rfl
    rw [hc] at ho
    by_cases c : (FloatKind.f64.decode (wd z a)).neg = true
    · exact ⟨z', fun w ts t => by simp [Builtin.max_, Builtin.max2, ho, mxF, c]⟩
    · exact ⟨z, fun w ts t => by simp [Builtin.max_, Builtin.max2, ho, mxF, c]⟩
  · have hc : compare a b = .gt := Int.compare_eq_gt.2 h
    rw [hc] at ho
    exact ⟨z, fun w ts t => by simp [Builtin.max_, Builtin.max2, ho, mxF, show ¬ a < b by omega]⟩

set_option maxRecDepth 100000 in
theorem steer_no (x1 y1 x2 y2 x3 y3 x y : Nat) (k c : Int) (hc : ∀ w, Calls Try.prog 29 #[ps x1 y1 x2 y2 x3 y3] w fun e w' => e = .returned (.int .i64 c) ∧ Below w.heap.size w w') (h0 : c ≠ 0) (w : World) :
    Calls Try.prog 34 #[ps x1 y1 x2 y2 x3 y3, cx x y, .int .i64 k] w fun e w' => e = .returned (pairC 0 0 c) ∧ Below w.heap.size w w' := by
  have e1 : (c != 0) = true := by simp [bne, h0]
  have hb0 := (Below.refl w.heap.size w).alloc (Nat.le_refl _) (Obj.cells #[Value.complex .f64 x1 y1, Value.complex .f64 x2 y2, Value.complex .f64 x3 y3] 45)
  clear h0
  go_enter Try.func34, Try.ntmps34
  go_wp2_with fail
  refine (hc _).mono ?_
  rintro e w1 ⟨rfl, hb1⟩
  have hb01 := hb0.trans (hb1.mono hb0.size)
  go_wp2
  go_ret2
  exact ⟨rfl, hb01⟩
set_option maxRecDepth 100000 in
theorem steer_bad (x1 y1 x2 y2 x3 y3 x y : Nat) (k : Int) (hc : ∀ w, Calls Try.prog 29 #[ps x1 y1 x2 y2 x3 y3] w fun e w' => e = .returned (.int .i64 0) ∧ Below w.heap.size w w') (hm : mayZ x y = false ∨ k < 0 ∨ 1048576 ≤ k) (w : World) :
    Calls Try.prog 34 #[ps x1 y1 x2 y2 x3 y3, cx x y, .int .i64 k] w fun e w' => e = .returned (pairC 0 0 10) ∧ Below w.heap.size w w' := by
  have ha := may_any x y
  have hb0 := (Below.refl w.heap.size w).alloc (Nat.le_refl _) (Obj.cells #[Value.complex .f64 x1 y1, Value.complex .f64 x2 y2, Value.complex .f64 x3 y3] 45)
  generalize mayZ x y = m at ha hm
  cases m with
  | false =>
    clear hm
    go_enter Try.func34, Try.ntmps34
    go_wp2_with fail
    refine (hc _).mono ?_
    rintro e w1 ⟨rfl, hb1⟩
    have hb01 := hb0.trans (hb1.mono hb0.size)
    clear hb1
    go_wp2_with fail
    refine (ha _).mono ?_
    rintro e w2 ⟨rfl, hb2⟩
    have hb02 := hb01.trans (hb2.mono hb01.size)
    go_wp2
    go_ret2
    exact ⟨rfl, hb02⟩
  | true =>
    by_cases k0 : k < 0
    · have d0 : decide (k < 0) = true := by simpa using k0
      clear hm k0
      go_enter Try.func34, Try.ntmps34
      go_wp2_with fail
      refine (hc _).mono ?_
      rintro e w1 ⟨rfl, hb1⟩
      have hb01 := hb0.trans (hb1.mono hb0.size)
      clear hb1
      go_wp2_with fail
      refine (ha _).mono ?_
      rintro e w2 ⟨rfl, hb2⟩
      have hb02 := hb01.trans (hb2.mono hb01.size)
      go_wp2
      go_ret2
      exact ⟨rfl, hb02⟩
    · have d0 : decide (k < 0) = false := by simpa using k0
      have d1 : decide (1048576 ≤ k) = true := by simp at hm ⊢; omega
      clear hm k0
      go_enter Try.func34, Try.ntmps34
      go_wp2_with fail
      refine (hc _).mono ?_
      rintro e w1 ⟨rfl, hb1⟩
      have hb01 := hb0.trans (hb1.mono hb0.size)
      clear hb1
      go_wp2_with fail
      refine (ha _).mono ?_
      rintro e w2 ⟨rfl, hb2⟩
      have hb02 := hb01.trans (hb2.mono hb01.size)
      go_wp2
      go_ret2
      exact ⟨rfl, hb02⟩
set_option maxRecDepth 100000 in
set_option maxHeartbeats 1000000 in
theorem steer_ok (R I S J N M a b k : Int) (h1 : rightB R I = true) (h2 : rightB S J = true) (h3 : noseB N M = true) (h4 : rightB a b = true) (hk : 0 ≤ k ∧ k < 1048576) (w : World) :
    Calls Try.prog 34 #[ps (wd false R) (wd false I) (wd false S) (wd false J) (wd false N) (wd false M), cx (wd false a) (wd false b), .int .i64 k] w fun e w' =>
      e = .returned (pairC (wd false (cutF (a - R) k)) (wd false (cutF (b - I) k)) 0) ∧ Below w.heap.size w w' := by
  have hN := right_bd (nose_bd h3)
  have hR := right_bd h1
  have hA := right_bd h4
  have hc := check_any (wd false R) (wd false I) (wd false S) (wd false J) (wd false N) (wd false M) R I S J N M (.inl ⟨h1, rfl, rfl⟩) (.inl ⟨h2, rfl, rfl⟩) (.inl ⟨nose_bd h3, rfl, rfl⟩)
  rw [ck_yes h1 h2, h3, if_pos rfl] at hc
  have hm := may_any (wd false a) (wd false b)
  rw [may_wd _ _ _ _ (by omega) (by omega), h4] at hm
  have d0 : decide (k < 0) = false := by simp; omega
  have d1 : decide (1048576 ≤ k) = false := by simp; omega
  have o1 := ofInt_wd k
  obtain ⟨s1, t1, hsub⟩ := cSum_sub false false false false a b R I (by omega) (by omega) (by omega) (by omega)
  have rsub : ∀ w, (binOp .sub 31 (.complex .f64 (wd false a) (wd false b)) (.complex .f64 (wd false R) (wd false I))).run Try.prog w = .ok (.complex .f64 (wd s1 (a - R)) (wd t1 (b - I))) w := fun w => run_complex_sum w .sub (.inr rfl) 31 .f64 _ _ _ _ _ _ hsub
  have hneg : Op.negFloat .f64 (wd false k) = wd true (-k) := neg_wd false k (by omega)
  have rneg : ∀ w, (Op.unary .neg (.float .f64 (wd false k))).run Try.prog w = .ok (.float .f64 (wd true (-k))) w := fun w => by simp [Op.unary, hneg]
  obtain ⟨m1, rm1⟩ := min_wd false s1 k (a - R) (by omega) (by omega)
  obtain ⟨m2, rm2⟩ := min_wd false t1 k (b - I) (by omega) (by omega)
  have n1 : (miF k (a - R)).natAbs < 4194304 := by unfold miF; split <;> omega
  have n2 : (miF k (b - I)).natAbs < 4194304 := by unfold miF; split <;> omega
  obtain ⟨u1, ru1⟩ := max_wd true m1 (-k) (miF k (a - R)) (by omega) (by omega)
  obtain ⟨u2, ru2⟩ := max_wd true m2 (-k) (miF k (b - I)) (by omega) (by omega)
  rw [cut_eq _ _ hk.1] at ru1 ru2
  have hp := nplain_any u1 u2 (cutF (a - R) k) (cutF (b - I) k) (by unfold cutF; split <;> (try split) <;> omega) (by unfold cutF; split <;> (try split) <;> omega)
  clear hsub hneg h1 h2 h3 h4 n1 n2 hN hR hA hk
  generalize cutF (a - R) k = X at ru1 hp ⊢
  generalize cutF (b - I) k = Y at ru2 hp ⊢
  have hb0 := (Below.refl w.heap.size w).alloc (Nat.le_refl _) (Obj.cells #[Value.complex .f64 (wd false R) (wd false I), Value.complex .f64 (wd false S) (wd false J), Value.complex .f64 (wd false N) (wd false M)] 45)
  have hc1 := heap_alloc_new w (Obj.cells #[Value.complex .f64 (wd false R) (wd false I), Value.complex .f64 (wd false S) (wd false J), Value.complex .f64 (wd false N) (wd false M)] 45)
  go_enter Try.func34, Try.ntmps34
  go_wp2_with fail
  refine (hc _).mono ?_
  rintro e w1 ⟨rfl, hb1⟩
  have hb01 := hb0.trans (hb1.mono hb0.size)
  have hrow := (hb1.block w.heap.size (by simp)).trans hc1
  have hlt : w.heap.size < w1.heap.size := by have := hb1.size; simp at this; omega
  clear hb1
  go_wp2_with fail
  refine (hm _).mono ?_
  rintro e w2 ⟨rfl, hb2⟩
  have hb02 := hb01.trans (hb2.mono hb01.size)
  have hrow2 := (hb2.block w.heap.size hlt).trans hrow
  have a0 := cell_of_row w2 w.heap.size 0 _ _ _ hrow2
  simp only [List.getElem?_toArray, List.getElem?_cons_zero] at a0
  clear hb2 hrow hrow2 hc1
  go_wp2_with fail
  refine (hp _).mono ?_
  rintro e w3 ⟨rfl, rfl⟩
  go_wp2
  go_ret2
  exact ⟨rfl, hb02⟩
end Go.Proofs.Ytbgllbjkmjlipaa
