/- Contract: nav.Check. -/
import Derived.Test.YtbgllbjkmjlipaaE
namespace Go.Proofs.Ytbgllbjkmjlipaa
open Go.RowKit
attribute [local go_sem] fmt64

set_option maxRecDepth 100000 in
set_option maxHeartbeats 1000000 in
theorem check_no (x1 y1 x2 y2 x3 y3 : Nat) (h : mayZ x1 y1 = false ∨ mayZ x2 y2 = false) (w : World) : Calls Try.prog 29 #[ps x1 y1 x2 y2 x3 y3] w fun e w' => e = .returned (.int .i64 10) ∧ Below w.heap.size w w' := by
  have h1 := may_any x1 y1
  have h2 := may_any x2 y2
  have hb0 := (Below.refl w.heap.size w).alloc (Nat.le_refl _) (Obj.cells #[Value.complex .f64 x1 y1, Value.complex .f64 x2 y2, Value.complex .f64 x3 y3] 45)
  cases c : mayZ x1 y1 with
  | false =>
    rw [c] at h1
    clear h h2
    go_enter Try.func29, Try.ntmps29
    go_wp2_with fail
    refine (h1 _).mono ?_
    rintro e w1 ⟨rfl, hb1⟩
    have hb01 := hb0.trans (hb1.mono hb0.size)
    go_wp2
    go_ret
    exact ⟨rfl, hb01⟩
  | true =>
    rw [c] at h1
    rw [show mayZ x2 y2 = false by rcases h with h | h; (rw [c] at h; cases h); exact h] at h2
    clear h
    have hc1 := heap_alloc_new w (Obj.cells #[Value.complex .f64 x1 y1, Value.complex .f64 x2 y2, Value.complex .f64 x3 y3] 45)
    go_enter Try.func29, Try.ntmps29
    go_wp2_with fail
    refine (h1 _).mono ?_
    rintro e w1 ⟨rfl, hb1⟩
    have hb01 := hb0.trans (hb1.mono hb0.size)
    have hrow := (hb1.block w.heap.size (by simp)).trans hc1
    have a2 := cell_of_row w1 w.heap.size 1 _ _ _ hrow
    simp only [List.getElem?_toArray, List.getElem?_cons_succ, List.getElem?_cons_zero] at a2
    clear hb1
    go_wp2_with fail
    refine (h2 _).mono ?_
    rintro e w2 ⟨rfl, hb2⟩
    have hb02 := hb01.trans (hb2.mono hb01.size)
    go_wp2
    go_ret
    exact ⟨rfl, hb02⟩
set_option maxRecDepth 100000 in
set_option maxHeartbeats 1000000 in
theorem check_0 (x1 y1 x2 y2 x3 y3 : Nat) (c1 : mayZ x1 y1 = true) (c2 : mayZ x2 y2 = true) (t0 : ((Ieee.double.order x3 4607182418800017408 == some .eq) && (Ieee.double.order y3 0 == some .eq)) = true) (w : World) : Calls Try.prog 29 #[ps x1 y1 x2 y2 x3 y3] w fun e w' => e = .returned (.int .i64 0) ∧ Below w.heap.size w w' := by
  have h1 := may_any x1 y1
  have h2 := may_any x2 y2
  rw [c1] at h1
  rw [c2] at h2
  clear c1 c2
  have hb0 := (Below.refl w.heap.size w).alloc (Nat.le_refl _) (Obj.cells #[Value.complex .f64 x1 y1, Value.complex .f64 x2 y2, Value.complex .f64 x3 y3] 45)
  have hc1 := heap_alloc_new w (Obj.cells #[Value.complex .f64 x1 y1, Value.complex .f64 x2 y2, Value.complex .f64 x3 y3] 45)
  go_enter Try.func29, Try.ntmps29
  go_wp2_with fail
  refine (h1 _).mono ?_
  rintro e w1 ⟨rfl, hb1⟩
  have hb01 := hb0.trans (hb1.mono hb0.size)
  have hrow := (hb1.block w.heap.size (by simp)).trans hc1
  have a2 := cell_of_row w1 w.heap.size 1 _ _ _ hrow
  simp only [List.getElem?_toArray, List.getElem?_cons_succ, List.getElem?_cons_zero] at a2
  have hlt : w.heap.size < w1.heap.size := by have := hb1.size; simp at this; omega
  clear hb1
  go_wp2_with fail
  refine (h2 _).mono ?_
  rintro e w2 ⟨rfl, hb2⟩
  have hb02 := hb01.trans (hb2.mono hb01.size)
  have hrow2 := (hb2.block w.heap.size hlt).trans hrow
  have a4 := cell_of_row w2 w.heap.size 2 _ _ _ hrow2
  simp only [List.getElem?_toArray, List.getElem?_cons_succ, List.getElem?_cons_zero] at a4
  clear hb2 hrow hrow2 hc1
  go_wp2
  go_ret
  exact ⟨rfl, hb02⟩
set_option maxRecDepth 100000 in
set_option maxHeartbeats 1000000 in
theorem check_1 (x1 y1 x2 y2 x3 y3 : Nat) (c1 : mayZ x1 y1 = true) (c2 : mayZ x2 y2 = true) (t0 : ((Ieee.double.order x3 4607182418800017408 == some .eq) && (Ieee.double.order y3 0 == some .eq)) = false) (t1 : ((Ieee.double.order x3 0 == some .eq) && (Ieee.double.order y3 4607182418800017408 == some .eq)) = true) (w : World) : Calls Try.prog 29 #[ps x1 y1 x2 y2 x3 y3] w fun e w' => e = .returned (.int .i64 0) ∧ Below w.heap.size w w' := by
  have h1 := may_any x1 y1
  have h2 := may_any x2 y2
  rw [c1] at h1
  rw [c2] at h2
  clear c1 c2
  have hb0 := (Below.refl w.heap.size w).alloc (Nat.le_refl _) (Obj.cells #[Value.complex .f64 x1 y1, Value.complex .f64 x2 y2, Value.complex .f64 x3 y3] 45)
  have hc1 := heap_alloc_new w (Obj.cells #[Value.complex .f64 x1 y1, Value.complex .f64 x2 y2, Value.complex .f64 x3 y3] 45)
  go_enter Try.func29, Try.ntmps29
  go_wp2_with fail
  refine (h1 _).mono ?_
  rintro e w1 ⟨rfl, hb1⟩
  have hb01 := hb0.trans (hb1.mono hb0.size)
  have hrow := (hb1.block w.heap.size (by simp)).trans hc1
  have a2 := cell_of_row w1 w.heap.size 1 _ _ _ hrow
  simp only [List.getElem?_toArray, List.getElem?_cons_succ, List.getElem?_cons_zero] at a2
  have hlt : w.heap.size < w1.heap.size := by have := hb1.size; simp at this; omega
  clear hb1
  go_wp2_with fail
  refine (h2 _).mono ?_
  rintro e w2 ⟨rfl, hb2⟩
  have hb02 := hb01.trans (hb2.mono hb01.size)
  have hrow2 := (hb2.block w.heap.size hlt).trans hrow
  have a4 := cell_of_row w2 w.heap.size 2 _ _ _ hrow2
  simp only [List.getElem?_toArray, List.getElem?_cons_succ, List.getElem?_cons_zero] at a4
  clear hb2 hrow hrow2 hc1
  go_wp2
  go_ret
  exact ⟨rfl, hb02⟩
set_option maxRecDepth 100000 in
set_option maxHeartbeats 1000000 in
theorem check_2 (x1 y1 x2 y2 x3 y3 : Nat) (c1 : mayZ x1 y1 = true) (c2 : mayZ x2 y2 = true) (t0 : ((Ieee.double.order x3 4607182418800017408 == some .eq) && (Ieee.double.order y3 0 == some .eq)) = false) (t1 : ((Ieee.double.order x3 0 == some .eq) && (Ieee.double.order y3 4607182418800017408 == some .eq)) = false) (t2 : ((Ieee.double.order x3 13830554455654793216 == some .eq) && (Ieee.double.order y3 0 == some .eq)) = true) (w : World) : Calls Try.prog 29 #[ps x1 y1 x2 y2 x3 y3] w fun e w' => e = .returned (.int .i64 0) ∧ Below w.heap.size w w' := by
  have h1 := may_any x1 y1
  have h2 := may_any x2 y2
  rw [c1] at h1
  rw [c2] at h2
  clear c1 c2
  have hb0 := (Below.refl w.heap.size w).alloc (Nat.le_refl _) (Obj.cells #[Value.complex .f64 x1 y1, Value.complex .f64 x2 y2, Value.complex .f64 x3 y3] 45)
  have hc1 := heap_alloc_new w (Obj.cells #[Value.complex .f64 x1 y1, Value.complex .f64 x2 y2, Value.complex .f64 x3 y3] 45)
  go_enter Try.func29, Try.ntmps29
  go_wp2_with fail
  refine (h1 _).mono ?_
  rintro e w1 ⟨rfl, hb1⟩
  have hb01 := hb0.trans (hb1.mono hb0.size)
  have hrow := (hb1.block w.heap.size (by simp)).trans hc1
  have a2 := cell_of_row w1 w.heap.size 1 _ _ _ hrow
  simp only [List.getElem?_toArray, List.getElem?_cons_succ, List.getElem?_cons_zero] at a2
  have hlt : w.heap.size < w1.heap.size := by have := hb1.size; simp at this; omega
  clear hb1
  go_wp2_with fail
  refine (h2 _).mono ?_
  rintro e w2 ⟨rfl, hb2⟩
  have hb02 := hb01.trans (hb2.mono hb01.size)
  have hrow2 := (hb2.block w.heap.size hlt).trans hrow
  have a4 := cell_of_row w2 w.heap.size 2 _ _ _ hrow2
  simp only [List.getElem?_toArray, List.getElem?_cons_succ, List.getElem?_cons_zero] at a4
  clear hb2 hrow hrow2 hc1
  go_wp2
  go_ret
  exact ⟨rfl, hb02⟩
set_option maxRecDepth 100000 in
set_option maxHeartbeats 1000000 in
theorem check_3 (x1 y1 x2 y2 x3 y3 : Nat) (c1 : mayZ x1 y1 = true) (c2 : mayZ x2 y2 = true) (t0 : ((Ieee.double.order x3 4607182418800017408 == some .eq) && (Ieee.double.order y3 0 == some .eq)) = false) (t1 : ((Ieee.double.order x3 0 == some .eq) && (Ieee.double.order y3 4607182418800017408 == some .eq)) = false) (t2 : ((Ieee.double.order x3 13830554455654793216 == some .eq) && (Ieee.double.order y3 0 == some .eq)) = false) (t3 : ((Ieee.double.order x3 0 == some .eq) && (Ieee.double.order y3 13830554455654793216 == some .eq)) = true) (w : World) : Calls Try.prog 29 #[ps x1 y1 x2 y2 x3 y3] w fun e w' => e = .returned (.int .i64 0) ∧ Below w.heap.size w w' := by
  have h1 := may_any x1 y1
  have h2 := may_any x2 y2
  rw [c1] at h1
  rw [c2] at h2
  clear c1 c2
  have hb0 := (Below.refl w.heap.size w).alloc (Nat.le_refl _) (Obj.cells #[Value.complex .f64 x1 y1, Value.complex .f64 x2 y2, Value.complex .f64 x3 y3] 45)
  have hc1 := heap_alloc_new w (Obj.cells #[Value.complex .f64 x1 y1, Value.complex .f64 x2 y2, Value.complex .f64 x3 y3] 45)
  go_enter Try.func29, Try.ntmps29
  go_wp2_with fail
  refine (h1 _).mono ?_
  rintro e w1 ⟨rfl, hb1⟩
  have hb01 := hb0.trans (hb1.mono hb0.size)
  have hrow := (hb1.block w.heap.size (by simp)).trans hc1
  have a2 := cell_of_row w1 w.heap.size 1 _ _ _ hrow
  simp only [List.getElem?_toArray, List.getElem?_cons_succ, List.getElem?_cons_zero] at a2
  have hlt : w.heap.size < w1.heap.size := by have := hb1.size; simp at this; omega
  clear hb1
  go_wp2_with fail
  refine (h2 _).mono ?_
  rintro e w2 ⟨rfl, hb2⟩
  have hb02 := hb01.trans (hb2.mono hb01.size)
  have hrow2 := (hb2.block w.heap.size hlt).trans hrow
  have a4 := cell_of_row w2 w.heap.size 2 _ _ _ hrow2
  simp only [List.getElem?_toArray, List.getElem?_cons_succ, List.getElem?_cons_zero] at a4
  clear hb2 hrow hrow2 hc1
  go_wp2
  go_ret
  exact ⟨rfl, hb02⟩
set_option maxRecDepth 100000 in
set_option maxHeartbeats 1000000 in
theorem check_4 (x1 y1 x2 y2 x3 y3 : Nat) (c1 : mayZ x1 y1 = true) (c2 : mayZ x2 y2 = true) (t0 : ((Ieee.double.order x3 4607182418800017408 == some .eq) && (Ieee.double.order y3 0 == some .eq)) = false) (t1 : ((Ieee.double.order x3 0 == some .eq) && (Ieee.double.order y3 4607182418800017408 == some .eq)) = false) (t2 : ((Ieee.double.order x3 13830554455654793216 == some .eq) && (Ieee.double.order y3 0 == some .eq)) = false) (t3 : ((Ieee.double.order x3 0 == some .eq) && (Ieee.double.order y3 13830554455654793216 == some .eq)) = false) (w : World) : Calls Try.prog 29 #[ps x1 y1 x2 y2 x3 y3] w fun e w' => e = .returned (.int .i64 1) ∧ Below w.heap.size w w' := by
  have h1 := may_any x1 y1
  have h2 := may_any x2 y2
  rw [c1] at h1
  rw [c2] at h2
  clear c1 c2
  have hb0 := (Below.refl w.heap.size w).alloc (Nat.le_refl _) (Obj.cells #[Value.complex .f64 x1 y1, Value.complex .f64 x2 y2, Value.complex .f64 x3 y3] 45)
  have hc1 := heap_alloc_new w (Obj.cells #[Value.complex .f64 x1 y1, Value.complex .f64 x2 y2, Value.complex .f64 x3 y3] 45)
  go_enter Try.func29, Try.ntmps29
  go_wp2_with fail
  refine (h1 _).mono ?_
  rintro e w1 ⟨rfl, hb1⟩
  have hb01 := hb0.trans (hb1.mono hb0.size)
  have hrow := (hb1.block w.heap.size (by simp)).trans hc1
  have a2 := cell_of_row w1 w.heap.size 1 _ _ _ hrow
  simp only [List.getElem?_toArray, List.getElem?_cons_succ, List.getElem?_cons_zero] at a2
  have hlt : w.heap.size < w1.heap.size := by have := hb1.size; simp at this; omega
  clear hb1
  go_wp2_with fail
  refine (h2 _).mono ?_
  rintro e w2 ⟨rfl, hb2⟩
  have hb02 := hb01.trans (hb2.mono hb01.size)
  have hrow2 := (hb2.block w.heap.size hlt).trans hrow
  have a4 := cell_of_row w2 w.heap.size 2 _ _ _ hrow2
  simp only [List.getElem?_toArray, List.getElem?_cons_succ, List.getElem?_cons_zero] at a4
  clear hb2 hrow hrow2 hc1
  go_wp2
  go_ret
  exact ⟨rfl, hb02⟩
theorem check_any (x1 y1 x2 y2 x3 y3 : Nat) (R I S J N M : Int) (h1 : Num x1 y1 R I) (h2 : Num x2 y2 S J) (h3 : Num x3 y3 N M) (w : World) : Calls Try.prog 29 #[ps x1 y1 x2 y2 x3 y3] w fun e w' => e = .returned (.int .i64 (ckF R I S J N M)) ∧ Below w.heap.size w w' := by
  have m1 := num_may h1
  have m2 := num_may h2
  cases c1 : rightB R I with
  | false => rw [ck_no1 c1]; exact check_no _ _ _ _ _ _ (.inl (m1.trans c1)) w
  | true =>
    cases c2 : rightB S J with
    | false => rw [ck_no2 c2]; exact check_no _ _ _ _ _ _ (.inr (m2.trans c2)) w
    | true =>
      rw [ck_yes c1 c2]
      rw [c1] at m1
      rw [c2] at m2
      have t0 := num_eq h3 1 0 (by decide) (by decide)
      have t1 := num_eq h3 0 1 (by decide) (by decide)
      have t2 := num_eq h3 (-1) 0 (by decide) (by decide)
      have t3 := num_eq h3 0 (-1) (by decide) (by decide)
      rw [lit1, lit0] at t0
      rw [lit1, lit0] at t1
      rw [litm1, lit0] at t2
      rw [litm1, lit0] at t3
      by_cases d0 : N = 1 ∧ M = 0
      · rw [show noseB N M = true from decide_eq_true (by omega), if_pos rfl]
        exact check_0 _ _ _ _ _ _ m1 m2 (t0.trans (decide_eq_true d0)) w
      · by_cases d1 : N = 0 ∧ M = 1
        · rw [show noseB N M = true from decide_eq_true (by omega), if_pos rfl]
          exact check_1 _ _ _ _ _ _ m1 m2 (t0.trans (decide_eq_false d0)) (t1.trans (decide_eq_true d1)) w
        · by_cases d2 : N = -1 ∧ M = 0
          · rw [show noseB N M = true from decide_eq_true (by omega), if_pos rfl]
            exact check_2 _ _ _ _ _ _ m1 m2 (t0.trans (decide_eq_false d0)) (t1.trans (decide_eq_false d1)) (t2.trans (decide_eq_true d2)) w
          · by_cases d3 : N = 0 ∧ M = -1
            · rw [show noseB N M = true from decide_eq_true (by omega), if_pos rfl]
              exact check_3 _ _ _ _ _ _ m1 m2 (t0.trans (decide_eq_false d0)) (t1.trans (decide_eq_false d1)) (t2.trans (decide_eq_false d2)) (t3.trans (decide_eq_true d3)) w
            · rw [show noseB N M = false from decide_eq_false (by omega), if_neg (by decide)]
              exact check_4 _ _ _ _ _ _ m1 m2 (t0.trans (decide_eq_false d0)) (t1.trans (decide_eq_false d1)) (t2.trans (decide_eq_false d2)) (t3.trans (decide_eq_false d3)) w
end Go.Proofs.Ytbgllbjkmjlipaa
