/- Contracts: Check, of nav and of the document's answer. -/
import Derived.Test.YtbgllbjkmjlipaaD
namespace Go.Proofs.Ytbgllbjkmjlipaa
open Go.RowKit
attribute [local go_sem] fmt64

def noseB (N M : Int) : Bool := decide (N = 0 ∧ (M = 1 ∨ M = -1) ∨ M = 0 ∧ (N = 1 ∨ N = -1))
/-- What Check answers: 0, ErrArg, ErrRange. -/
def ckF (R I S J N M : Int) : Int := if rightB R I = true ∧ rightB S J = true then (if noseB N M then 0 else 1) else 10
theorem ck_no1 {R I S J N M : Int} (h : rightB R I = false) : ckF R I S J N M = 10 := by unfold ckF; rw [if_neg (by simp [h])]
theorem ck_no2 {R I S J N M : Int} (h : rightB S J = false) : ckF R I S J N M = 10 := by unfold ckF; rw [if_neg (by simp [h])]
theorem ck_yes {R I S J N M : Int} (h1 : rightB R I = true) (h2 : rightB S J = true) : ckF R I S J N M = if noseB N M then 0 else 1 := by unfold ckF; rw [if_pos ⟨h1, h2⟩]
/-- A pose, by value; the document's. -/
abbrev ps (x1 y1 x2 y2 x3 y3 : Nat) : Value := .agg #[cx x1 y1, cx x2 y2, cx x3 y3]
abbrev pz (R I S J N M : Int) : Value := .agg #[.int .i64 R, .int .i64 I, .int .i64 S, .int .i64 J, .int .i64 N, .int .i64 M]
theorem num_may {x y : Nat} {R I : Int} (h : Num x y R I) : mayZ x y = rightB R I := by
  rcases h with ⟨h1, rfl, rfl⟩ | ⟨h1, h2, _⟩
  · have h3 := of_decide_eq_true h1
    rw [may_wd _ _ _ _ (by omega) (by omega)]
  · rw [h1, h2]
theorem num_eq {x y : Nat} {R I : Int} (h : Num x y R I) (c d : Int) (hc : c.natAbs < 1048576) (hd : d.natAbs < 1048576) : ((Ieee.double.order x (wd false c) == some .eq) && (Ieee.double.order y (wd false d) == some .eq)) = decide (R = c ∧ I = d) := by
  rcases h with ⟨h1, rfl, rfl⟩ | ⟨h1, _, h3⟩
  · have h3 := of_decide_eq_true h1
    rw [order_wd _ _ _ _ (by omega) (by omega), order_wd _ _ _ _ (by omega) (by omega), cmp_eq, cmp_eq, Bool.decide_and]
  · rw [h3 false false c d hc hd]
    refine (decide_eq_false ?_).symm
    rintro ⟨rfl, rfl⟩
    exact absurd h1 (by rw [rightB, decide_eq_true (by omega)]; decide)

set_option maxRecDepth 100000 in
set_option maxHeartbeats 1000000 in
theorem rcheck_no (R I S J N M : Int) (h : rightB R I = false ∨ rightB S J = false) (w : World) : Calls Try.prog 23 #[pz R I S J N M] w fun e w' => e = .returned (.int .i64 10) ∧ Below w.heap.size w w' := by
  have h1 := rightZ_any R I
  have h2 := rightZ_any S J
  have hb0 := (Below.refl w.heap.size w).alloc (Nat.le_refl _) (Obj.cells #[Value.int .i64 R, Value.int .i64 I, Value.int .i64 S, Value.int .i64 J, Value.int .i64 N, Value.int .i64 M] 48)
  cases c : rightB R I with
  | false =>
    rw [c] at h1
    clear h h2
    go_enter Try.func23, Try.ntmps23
    go_wp2_with fail
    refine (h1 _).mono ?_
    rintro e w1 ⟨rfl, hb1⟩
    have hb01 := hb0.trans (hb1.mono hb0.size)
    go_wp2
    go_ret
    exact ⟨rfl, hb01⟩
  | true =>
    rw [c] at h1
    rw [show rightB S J = false by rcases h with h | h; (rw [c] at h; cases h); exact h] at h2
    clear h
    have hc1 := heap_alloc_new w (Obj.cells #[Value.int .i64 R, Value.int .i64 I, Value.int .i64 S, Value.int .i64 J, Value.int .i64 N, Value.int .i64 M] 48)
    go_enter Try.func23, Try.ntmps23
    go_wp2_with fail
    refine (h1 _).mono ?_
    rintro e w1 ⟨rfl, hb1⟩
    have hb01 := hb0.trans (hb1.mono hb0.size)
    have hrow := (hb1.block w.heap.size (by simp)).trans hc1
    have a2 := cell_of_row w1 w.heap.size 2 _ _ _ hrow
    have a3 := cell_of_row w1 w.heap.size 3 _ _ _ hrow
    simp only [List.getElem?_toArray, List.getElem?_cons_succ, List.getElem?_cons_zero] at a2 a3
    clear hb1
    go_wp2_with fail
    refine (h2 _).mono ?_
    rintro e w2 ⟨rfl, hb2⟩
    have hb02 := hb01.trans (hb2.mono hb01.size)
    go_wp2
    go_ret
    exact ⟨rfl, hb02⟩
set_option maxRecDepth 100000 in
set_option maxHeartbeats 1000000 in
theorem rcheck_0 (R I S J : Int) (c1 : rightB R I = true) (c2 : rightB S J = true) (w : World) : Calls Try.prog 23 #[pz R I S J (0 : Int) (1 : Int)] w fun e w' => e = .returned (.int .i64 0) ∧ Below w.heap.size w w' := by
  have h1 := rightZ_any R I
  have h2 := rightZ_any S J
  rw [c1] at h1
  rw [c2] at h2
  clear c1 c2
  have hb0 := (Below.refl w.heap.size w).alloc (Nat.le_refl _) (Obj.cells #[Value.int .i64 R, Value.int .i64 I, Value.int .i64 S, Value.int .i64 J, Value.int .i64 (0 : Int), Value.int .i64 (1 : Int)] 48)
  have hc1 := heap_alloc_new w (Obj.cells #[Value.int .i64 R, Value.int .i64 I, Value.int .i64 S, Value.int .i64 J, Value.int .i64 (0 : Int), Value.int .i64 (1 : Int)] 48)
  go_enter Try.func23, Try.ntmps23
  go_wp2_with fail
  refine (h1 _).mono ?_
  rintro e w1 ⟨rfl, hb1⟩
  have hb01 := hb0.trans (hb1.mono hb0.size)
  have hrow := (hb1.block w.heap.size (by simp)).trans hc1
  have a2 := cell_of_row w1 w.heap.size 2 _ _ _ hrow
  have a3 := cell_of_row w1 w.heap.size 3 _ _ _ hrow
  simp only [List.getElem?_toArray, List.getElem?_cons_succ, List.getElem?_cons_zero] at a2 a3
  have hlt : w.heap.size < w1.heap.size := by have := hb1.size; simp at this; omega
  clear hb1
  go_wp2_with fail
  refine (h2 _).mono ?_
  rintro e w2 ⟨rfl, hb2⟩
  have hb02 := hb01.trans (hb2.mono hb01.size)
  have hrow2 := (hb2.block w.heap.size hlt).trans hrow
  have a4 := cell_of_row w2 w.heap.size 4 _ _ _ hrow2
  have a5 := cell_of_row w2 w.heap.size 5 _ _ _ hrow2
  simp only [List.getElem?_toArray, List.getElem?_cons_succ, List.getElem?_cons_zero] at a4 a5
  have hb03 := hb02.alloc hb02.size (Obj.cells #[Value.int .i64 (0 : Int), Value.int .i64 (1 : Int)] 39)
  clear hb2 hrow hrow2 hc1
  go_wp2
  go_ret
  exact ⟨rfl, hb03⟩
set_option maxRecDepth 100000 in
set_option maxHeartbeats 1000000 in
theorem rcheck_1 (R I S J : Int) (c1 : rightB R I = true) (c2 : rightB S J = true) (w : World) : Calls Try.prog 23 #[pz R I S J (0 : Int) (-1 : Int)] w fun e w' => e = .returned (.int .i64 0) ∧ Below w.heap.size w w' := by
  have h1 := rightZ_any R I
  have h2 := rightZ_any S J
  rw [c1] at h1
  rw [c2] at h2
  clear c1 c2
  have hb0 := (Below.refl w.heap.size w).alloc (Nat.le_refl _) (Obj.cells #[Value.int .i64 R, Value.int .i64 I, Value.int .i64 S, Value.int .i64 J, Value.int .i64 (0 : Int), Value.int .i64 (-1 : Int)] 48)
  have hc1 := heap_alloc_new w (Obj.cells #[Value.int .i64 R, Value.int .i64 I, Value.int .i64 S, Value.int .i64 J, Value.int .i64 (0 : Int), Value.int .i64 (-1 : Int)] 48)
  go_enter Try.func23, Try.ntmps23
  go_wp2_with fail
  refine (h1 _).mono ?_
  rintro e w1 ⟨rfl, hb1⟩
  have hb01 := hb0.trans (hb1.mono hb0.size)
  have hrow := (hb1.block w.heap.size (by simp)).trans hc1
  have a2 := cell_of_row w1 w.heap.size 2 _ _ _ hrow
  have a3 := cell_of_row w1 w.heap.size 3 _ _ _ hrow
  simp only [List.getElem?_toArray, List.getElem?_cons_succ, List.getElem?_cons_zero] at a2 a3
  have hlt : w.heap.size < w1.heap.size := by have := hb1.size; simp at this; omega
  clear hb1
  go_wp2_with fail
  refine (h2 _).mono ?_
  rintro e w2 ⟨rfl, hb2⟩
  have hb02 := hb01.trans (hb2.mono hb01.size)
  have hrow2 := (hb2.block w.heap.size hlt).trans hrow
  have a4 := cell_of_row w2 w.heap.size 4 _ _ _ hrow2
  have a5 := cell_of_row w2 w.heap.size 5 _ _ _ hrow2
  simp only [List.getElem?_toArray, List.getElem?_cons_succ, List.getElem?_cons_zero] at a4 a5
  have hb03 := hb02.alloc hb02.size (Obj.cells #[Value.int .i64 (0 : Int), Value.int .i64 (-1 : Int)] 39)
  clear hb2 hrow hrow2 hc1
  go_wp2
  go_ret
  exact ⟨rfl, hb03⟩
set_option maxRecDepth 100000 in
set_option maxHeartbeats 1000000 in
theorem rcheck_2 (R I S J : Int) (c1 : rightB R I = true) (c2 : rightB S J = true) (w : World) : Calls Try.prog 23 #[pz R I S J (0 : Int) (0 : Int)] w fun e w' => e = .returned (.int .i64 1) ∧ Below w.heap.size w w' := by
  have h1 := rightZ_any R I
  have h2 := rightZ_any S J
  rw [c1] at h1
  rw [c2] at h2
  clear c1 c2
  have hb0 := (Below.refl w.heap.size w).alloc (Nat.le_refl _) (Obj.cells #[Value.int .i64 R, Value.int .i64 I, Value.int .i64 S, Value.int .i64 J, Value.int .i64 (0 : Int), Value.int .i64 (0 : Int)] 48)
  have hc1 := heap_alloc_new w (Obj.cells #[Value.int .i64 R, Value.int .i64 I, Value.int .i64 S, Value.int .i64 J, Value.int .i64 (0 : Int), Value.int .i64 (0 : Int)] 48)
  go_enter Try.func23, Try.ntmps23
  go_wp2_with fail
  refine (h1 _).mono ?_
  rintro e w1 ⟨rfl, hb1⟩
  have hb01 := hb0.trans (hb1.mono hb0.size)
  have hrow := (hb1.block w.heap.size (by simp)).trans hc1
  have a2 := cell_of_row w1 w.heap.size 2 _ _ _ hrow
  have a3 := cell_of_row w1 w.heap.size 3 _ _ _ hrow
  simp only [List.getElem?_toArray, List.getElem?_cons_succ, List.getElem?_cons_zero] at a2 a3
  have hlt : w.heap.size < w1.heap.size := by have := hb1.size; simp at this; omega
  clear hb1
  go_wp2_with fail
  refine (h2 _).mono ?_
  rintro e w2 ⟨rfl, hb2⟩
  have hb02 := hb01.trans (hb2.mono hb01.size)
  have hrow2 := (hb2.block w.heap.size hlt).trans hrow
  have a4 := cell_of_row w2 w.heap.size 4 _ _ _ hrow2
  have a5 := cell_of_row w2 w.heap.size 5 _ _ _ hrow2
  simp only [List.getElem?_toArray, List.getElem?_cons_succ, List.getElem?_cons_zero] at a4 a5
  have hb03 := hb02.alloc hb02.size (Obj.cells #[Value.int .i64 (0 : Int), Value.int .i64 (0 : Int)] 39)
  clear hb2 hrow hrow2 hc1
  go_wp2
  go_ret
  exact ⟨rfl, hb03⟩
set_option maxRecDepth 100000 in
set_option maxHeartbeats 1000000 in
theorem rcheck_3 (R I S J M : Int) (c1 : rightB R I = true) (c2 : rightB S J = true) (hM0 : M ≠ 0) (hM1 : M ≠ 1) (hMm1 : M ≠ -1) (w : World) : Calls Try.prog 23 #[pz R I S J (0 : Int) M] w fun e w' => e = .returned (.int .i64 1) ∧ Below w.heap.size w w' := by
  have h1 := rightZ_any R I
  have h2 := rightZ_any S J
  rw [c1] at h1
  rw [c2] at h2
  clear c1 c2
  have fM0 : (M == 0) = false := by simpa using hM0
  have fM1 : (M == 1) = false := by simpa using hM1
  have fMm1 : (M == -1) = false := by simpa using hMm1
  have hb0 := (Below.refl w.heap.size w).alloc (Nat.le_refl _) (Obj.cells #[Value.int .i64 R, Value.int .i64 I, Value.int .i64 S, Value.int .i64 J, Value.int .i64 (0 : Int), Value.int .i64 M] 48)
  have hc1 := heap_alloc_new w (Obj.cells #[Value.int .i64 R, Value.int .i64 I, Value.int .i64 S, Value.int .i64 J, Value.int .i64 (0 : Int), Value.int .i64 M] 48)
  go_enter Try.func23, Try.ntmps23
  go_wp2_with fail
  refine (h1 _).mono ?_
  rintro e w1 ⟨rfl, hb1⟩
  have hb01 := hb0.trans (hb1.mono hb0.size)
  have hrow := (hb1.block w.heap.size (by simp)).trans hc1
  have a2 := cell_of_row w1 w.heap.size 2 _ _ _ hrow
  have a3 := cell_of_row w1 w.heap.size 3 _ _ _ hrow
  simp only [List.getElem?_toArray, List.getElem?_cons_succ, List.getElem?_cons_zero] at a2 a3
  have hlt : w.heap.size < w1.heap.size := by have := hb1.size; simp at this; omega
  clear hb1
  go_wp2_with fail
  refine (h2 _).mono ?_
  rintro e w2 ⟨rfl, hb2⟩
  have hb02 := hb01.trans (hb2.mono hb01.size)
  have hrow2 := (hb2.block w.heap.size hlt).trans hrow
  have a4 := cell_of_row w2 w.heap.size 4 _ _ _ hrow2
  have a5 := cell_of_row w2 w.heap.size 5 _ _ _ hrow2
  simp only [List.getElem?_toArray, List.getElem?_cons_succ, List.getElem?_cons_zero] at a4 a5
  have hb03 := hb02.alloc hb02.size (Obj.cells #[Value.int .i64 (0 : Int), Value.int .i64 M] 39)
  clear hb2 hrow hrow2 hc1
  go_wp2
  go_ret
  exact ⟨rfl, hb03⟩
set_option maxRecDepth 100000 in
set_option maxHeartbeats 1000000 in
theorem rcheck_4 (R I S J : Int) (c1 : rightB R I = true) (c2 : rightB S J = true) (w : World) : Calls Try.prog 23 #[pz R I S J (1 : Int) (0 : Int)] w fun e w' => e = .returned (.int .i64 0) ∧ Below w.heap.size w w' := by
  have h1 := rightZ_any R I
  have h2 := rightZ_any S J
  rw [c1] at h1
  rw [c2] at h2
  clear c1 c2
  have hb0 := (Below.refl w.heap.size w).alloc (Nat.le_refl _) (Obj.cells #[Value.int .i64 R, Value.int .i64 I, Value.int .i64 S, Value.int .i64 J, Value.int .i64 (1 : Int), Value.int .i64 (0 : Int)] 48)
  have hc1 := heap_alloc_new w (Obj.cells #[Value.int .i64 R, Value.int .i64 I, Value.int .i64 S, Value.int .i64 J, Value.int .i64 (1 : Int), Value.int .i64 (0 : Int)] 48)
  go_enter Try.func23, Try.ntmps23
  go_wp2_with fail
  refine (h1 _).mono ?_
  rintro e w1 ⟨rfl, hb1⟩
  have hb01 := hb0.trans (hb1.mono hb0.size)
  have hrow := (hb1.block w.heap.size (by simp)).trans hc1
  have a2 := cell_of_row w1 w.heap.size 2 _ _ _ hrow
  have a3 := cell_of_row w1 w.heap.size 3 _ _ _ hrow
  simp only [List.getElem?_toArray, List.getElem?_cons_succ, List.getElem?_cons_zero] at a2 a3
  have hlt : w.heap.size < w1.heap.size := by have := hb1.size; simp at this; omega
  clear hb1
  go_wp2_with fail
  refine (h2 _).mono ?_
  rintro e w2 ⟨rfl, hb2⟩
  have hb02 := hb01.trans (hb2.mono hb01.size)
  have hrow2 := (hb2.block w.heap.size hlt).trans hrow
  have a4 := cell_of_row w2 w.heap.size 4 _ _ _ hrow2
  have a5 := cell_of_row w2 w.heap.size 5 _ _ _ hrow2
  simp only [List.getElem?_toArray, List.getElem?_cons_succ, List.getElem?_cons_zero] at a4 a5
  have hb03 := hb02.alloc hb02.size (Obj.cells #[Value.int .i64 (1 : Int), Value.int .i64 (0 : Int)] 39)
  clear hb2 hrow hrow2 hc1
  go_wp2
  go_ret
  exact ⟨rfl, hb03⟩
set_option maxRecDepth 100000 in
set_option maxHeartbeats 1000000 in
theorem rcheck_5 (R I S J : Int) (c1 : rightB R I = true) (c2 : rightB S J = true) (w : World) : Calls Try.prog 23 #[pz R I S J (-1 : Int) (0 : Int)] w fun e w' => e = .returned (.int .i64 0) ∧ Below w.heap.size w w' := by
  have h1 := rightZ_any R I
  have h2 := rightZ_any S J
  rw [c1] at h1
  rw [c2] at h2
  clear c1 c2
  have hb0 := (Below.refl w.heap.size w).alloc (Nat.le_refl _) (Obj.cells #[Value.int .i64 R, Value.int .i64 I, Value.int .i64 S, Value.int .i64 J, Value.int .i64 (-1 : Int), Value.int .i64 (0 : Int)] 48)
  have hc1 := heap_alloc_new w (Obj.cells #[Value.int .i64 R, Value.int .i64 I, Value.int .i64 S, Value.int .i64 J, Value.int .i64 (-1 : Int), Value.int .i64 (0 : Int)] 48)
  go_enter Try.func23, Try.ntmps23
  go_wp2_with fail
  refine (h1 _).mono ?_
  rintro e w1 ⟨rfl, hb1⟩
  have hb01 := hb0.trans (hb1.mono hb0.size)
  have hrow := (hb1.block w.heap.size (by simp)).trans hc1
  have a2 := cell_of_row w1 w.heap.size 2 _ _ _ hrow
  have a3 := cell_of_row w1 w.heap.size 3 _ _ _ hrow
  simp only [List.getElem?_toArray, List.getElem?_cons_succ, List.getElem?_cons_zero] at a2 a3
  have hlt : w.heap.size < w1.heap.size := by have := hb1.size; simp at this; omega
  clear hb1
  go_wp2_with fail
  refine (h2 _).mono ?_
  rintro e w2 ⟨rfl, hb2⟩
  have hb02 := hb01.trans (hb2.mono hb01.size)
  have hrow2 := (hb2.block w.heap.size hlt).trans hrow
  have a4 := cell_of_row w2 w.heap.size 4 _ _ _ hrow2
  have a5 := cell_of_row w2 w.heap.size 5 _ _ _ hrow2
  simp only [List.getElem?_toArray, List.getElem?_cons_succ, List.getElem?_cons_zero] at a4 a5
  have hb03 := hb02.alloc hb02.size (Obj.cells #[Value.int .i64 (-1 : Int), Value.int .i64 (0 : Int)] 39)
  clear hb2 hrow hrow2 hc1
  go_wp2
  go_ret
  exact ⟨rfl, hb03⟩
set_option maxRecDepth 100000 in
set_option maxHeartbeats 1000000 in
theorem rcheck_6 (R I S J N : Int) (c1 : rightB R I = true) (c2 : rightB S J = true) (hN0 : N ≠ 0) (hN1 : N ≠ 1) (hNm1 : N ≠ -1) (w : World) : Calls Try.prog 23 #[pz R I S J N (0 : Int)] w fun e w' => e = .returned (.int .i64 1) ∧ Below w.heap.size w w' := by
  have h1 := rightZ_any R I
  have h2 := rightZ_any S J
  rw [c1] at h1
  rw [c2] at h2
  clear c1 c2
  have fN0 : (N == 0) = false := by simpa using hN0
  have fN1 : (N == 1) = false := by simpa using hN1
  have fNm1 : (N == -1) = false := by simpa using hNm1
  have hb0 := (Below.refl w.heap.size w).alloc (Nat.le_refl _) (Obj.cells #[Value.int .i64 R, Value.int .i64 I, Value.int .i64 S, Value.int .i64 J, Value.int .i64 N, Value.int .i64 (0 : Int)] 48)
  have hc1 := heap_alloc_new w (Obj.cells #[Value.int .i64 R, Value.int .i64 I, Value.int .i64 S, Value.int .i64 J, Value.int .i64 N, Value.int .i64 (0 : Int)] 48)
  go_enter Try.func23, Try.ntmps23
  go_wp2_with fail
  refine (h1 _).mono ?_
  rintro e w1 ⟨rfl, hb1⟩
  have hb01 := hb0.trans (hb1.mono hb0.size)
  have hrow := (hb1.block w.heap.size (by simp)).trans hc1
  have a2 := cell_of_row w1 w.heap.size 2 _ _ _ hrow
  have a3 := cell_of_row w1 w.heap.size 3 _ _ _ hrow
  simp only [List.getElem?_toArray, List.getElem?_cons_succ, List.getElem?_cons_zero] at a2 a3
  have hlt : w.heap.size < w1.heap.size := by have := hb1.size; simp at this; omega
  clear hb1
  go_wp2_with fail
  refine (h2 _).mono ?_
  rintro e w2 ⟨rfl, hb2⟩
  have hb02 := hb01.trans (hb2.mono hb01.size)
  have hrow2 := (hb2.block w.heap.size hlt).trans hrow
  have a4 := cell_of_row w2 w.heap.size 4 _ _ _ hrow2
  have a5 := cell_of_row w2 w.heap.size 5 _ _ _ hrow2
  simp only [List.getElem?_toArray, List.getElem?_cons_succ, List.getElem?_cons_zero] at a4 a5
  have hb03 := hb02.alloc hb02.size (Obj.cells #[Value.int .i64 N, Value.int .i64 (0 : Int)] 39)
  clear hb2 hrow hrow2 hc1
  go_wp2
  go_ret
  exact ⟨rfl, hb03⟩
set_option maxRecDepth 100000 in
set_option maxHeartbeats 1000000 in
theorem rcheck_7 (R I S J N M : Int) (c1 : rightB R I = true) (c2 : rightB S J = true) (hN0 : N ≠ 0) (hM0 : M ≠ 0) (w : World) : Calls Try.prog 23 #[pz R I S J N M] w fun e w' => e = .returned (.int .i64 1) ∧ Below w.heap.size w w' := by
  have h1 := rightZ_any R I
  have h2 := rightZ_any S J
  rw [c1] at h1
  rw [c2] at h2
  clear c1 c2
  have fN0 : (N == 0) = false := by simpa using hN0
  have fM0 : (M == 0) = false := by simpa using hM0
  have hb0 := (Below.refl w.heap.size w).alloc (Nat.le_refl _) (Obj.cells #[Value.int .i64 R, Value.int .i64 I, Value.int .i64 S, Value.int .i64 J, Value.int .i64 N, Value.int .i64 M] 48)
  have hc1 := heap_alloc_new w (Obj.cells #[Value.int .i64 R, Value.int .i64 I, Value.int .i64 S, Value.int .i64 J, Value.int .i64 N, Value.int .i64 M] 48)
  go_enter Try.func23, Try.ntmps23
  go_wp2_with fail
  refine (h1 _).mono ?_
  rintro e w1 ⟨rfl, hb1⟩
  have hb01 := hb0.trans (hb1.mono hb0.size)
  have hrow := (hb1.block w.heap.size (by simp)).trans hc1
  have a2 := cell_of_row w1 w.heap.size 2 _ _ _ hrow
  have a3 := cell_of_row w1 w.heap.size 3 _ _ _ hrow
  simp only [List.getElem?_toArray, List.getElem?_cons_succ, List.getElem?_cons_zero] at a2 a3
  have hlt : w.heap.size < w1.heap.size := by have := hb1.size; simp at this; omega
  clear hb1
  go_wp2_with fail
  refine (h2 _).mono ?_
  rintro e w2 ⟨rfl, hb2⟩
  have hb02 := hb01.trans (hb2.mono hb01.size)
  have hrow2 := (hb2.block w.heap.size hlt).trans hrow
  have a4 := cell_of_row w2 w.heap.size 4 _ _ _ hrow2
  have a5 := cell_of_row w2 w.heap.size 5 _ _ _ hrow2
  simp only [List.getElem?_toArray, List.getElem?_cons_succ, List.getElem?_cons_zero] at a4 a5
  have hb03 := hb02.alloc hb02.size (Obj.cells #[Value.int .i64 N, Value.int .i64 M] 39)
  clear hb2 hrow hrow2 hc1
  go_wp2
  go_ret
  exact ⟨rfl, hb03⟩
theorem rcheck_any (R I S J N M : Int) (w : World) : Calls Try.prog 23 #[pz R I S J N M] w fun e w' => e = .returned (.int .i64 (ckF R I S J N M)) ∧ Below w.heap.size w w' := by
  cases c1 : rightB R I with
  | false => rw [ck_no1 c1]; exact rcheck_no R I S J N M (.inl c1) w
  | true =>
    cases c2 : rightB S J with
    | false => rw [ck_no2 c2]; exact rcheck_no R I S J N M (.inr c2) w
    | true =>
      rw [ck_yes c1 c2]
      by_cases n0 : N = 0
      · subst n0
        by_cases m1 : M = 1
        · subst m1; exact rcheck_0 R I S J c1 c2 w
        · by_cases m2 : M = -1
          · subst m2; exact rcheck_1 R I S J c1 c2 w
          · rw [show noseB 0 M = false from decide_eq_false (by omega), if_neg (by decide)]
            by_cases m3 : M = 0
            · subst m3; exact rcheck_2 R I S J c1 c2 w
            · exact rcheck_3 R I S J M c1 c2 m3 m1 m2 w
      · by_cases m0 : M = 0
        · subst m0
          by_cases n1 : N = 1
          · subst n1; exact rcheck_4 R I S J c1 c2 w
          · by_cases n2 : N = -1
            · subst n2; exact rcheck_5 R I S J c1 c2 w
            · rw [show noseB N 0 = false from decide_eq_false (by omega), if_neg (by decide)]
              exact rcheck_6 R I S J N c1 c2 n0 n1 n2 w
        · rw [show noseB N M = false from decide_eq_false (by omega), if_neg (by decide)]
          exact rcheck_7 R I S J N M c1 c2 n0 m0 w
end Go.Proofs.Ytbgllbjkmjlipaa
