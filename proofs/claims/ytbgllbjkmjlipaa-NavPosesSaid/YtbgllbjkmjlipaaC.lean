/- Contracts: the document's numbers; plain numbers. -/
import Derived.Test.YtbgllbjkmjlipaaB
namespace Go.Proofs.Ytbgllbjkmjlipaa
open Go.RowKit
attribute [local go_sem] fmt64

/-- A document's number, by value. -/
abbrev zz (R I : Int) : Value := .agg #[.int .i64 R, .int .i64 I]
abbrev nb (re im k : Int) : Value := .agg #[.int .i64 re, .int .i64 im, .int .i64 k]
theorem two_allocs (w : World) (o : Obj) (c : Array Value) (t : TypeId) : ((w.alloc o).alloc (.cells c t)).heap[w.heap.size + 1]? = some (.cells c t) := by
  have := heap_alloc_new (w.alloc o) (.cells c t)
  simpa using this
theorem three_allocs (w : World) (o o' : Obj) (c : Array Value) (t : TypeId) : (((w.alloc o).alloc o').alloc (.cells c t)).heap[w.heap.size + 1 + 1]? = some (.cells c t) := by
  have := heap_alloc_new ((w.alloc o).alloc o') (.cells c t)
  simpa using this
theorem below2 (w : World) (o o' : Obj) : Below w.heap.size w ((w.alloc o).alloc o') := ((Below.refl _ _).alloc (Nat.le_refl _) _).alloc (by simp) _
theorem below3 (w : World) (o o' o'' : Obj) : Below w.heap.size w (((w.alloc o).alloc o').alloc o'') := (below2 w o o').alloc (by simp <;> omega) _

theorem plainN_any (re im k : Int) (w : World) : Calls Try.prog 18 #[nb re im k] w fun e w' => e = .returned (zz (plR re im k) (plI re im k)) ∧ Below w.heap.size w w' := by
  by_cases k1 : k = 1
  · subst k1
    go_enter Try.func18, Try.ntmps18
    go_wp2
    refine bodyPost_ret (results_cell_row rfl _ _ (w.heap.size + 1) 39 #[.int .i64 1048576, .int .i64 1048576] (0, 0) _ rfl (two_allocs _ _ _ _) Try.underlying39 rfl (by kernel_rfl)) rfl ⟨?_, below2 _ _ _⟩
    rw [(plR_12 (.inl rfl)).1, (plR_12 (.inl rfl)).2]
  · have h1 : (k == 1) = false := by simpa using k1
    by_cases k2 : k = 2
    · subst k2
      go_enter Try.func18, Try.ntmps18
      go_wp2
      refine bodyPost_ret (results_cell_row rfl _ _ (w.heap.size + 1) 39 #[.int .i64 1048576, .int .i64 1048576] (0, 0) _ rfl (two_allocs _ _ _ _) Try.underlying39 rfl (by kernel_rfl)) rfl ⟨?_, below2 _ _ _⟩
      rw [(plR_12 (.inr rfl)).1, (plR_12 (.inr rfl)).2]
    · have h2 : (k == 2) = false := by simpa using k2
      go_enter Try.func18, Try.ntmps18
      go_wp2
      refine bodyPost_ret (results_cell_row rfl _ _ (w.heap.size + 1) 39 #[.int .i64 re, .int .i64 im] (0, 0) _ rfl (two_allocs _ _ _ _) Try.underlying39 rfl (by kernel_rfl)) rfl ⟨?_, below2 _ _ _⟩
      rw [(plR_0 (by omega)).1, (plR_0 (by omega)).2]
theorem ret_bool {a b : Bool} (h : a = b) : Ending.returned (.bool a) = .returned (.bool b) := by rw [h]
set_option maxHeartbeats 400000 in
theorem rightZ_any (R I : Int) (w : World) : Calls Try.prog 27 #[zz R I] w fun e w' => e = .returned (.bool (rightB R I)) ∧ Below w.heap.size w w' := by
  cases c1 : decide (-1048576 < R) with
  | false =>
    go_enter Try.func27, Try.ntmps27
    go_wp2
    go_ret
    exact ⟨ret_bool (decide_eq_false (by simp at c1; omega)).symm, (Below.refl _ _).alloc (Nat.le_refl _) _⟩
  | true =>
    cases c2 : decide (R < 1048576) with
    | false =>
      go_enter Try.func27, Try.ntmps27
      go_wp2
      go_ret
      exact ⟨ret_bool (decide_eq_false (by simp at c2; omega)).symm, (Below.refl _ _).alloc (Nat.le_refl _) _⟩
    | true =>
      cases c3 : decide (-1048576 < I) with
      | false =>
        go_enter Try.func27, Try.ntmps27
        go_wp2
        go_ret
        exact ⟨ret_bool (decide_eq_false (by simp at c3; omega)).symm, (Below.refl _ _).alloc (Nat.le_refl _) _⟩
      | true =>
        cases c4 : decide (I < 1048576) with
        | false =>
          go_enter Try.func27, Try.ntmps27
          go_wp2
          go_ret
          exact ⟨ret_bool (decide_eq_false (by simp at c4; omega)).symm, (Below.refl _ _).alloc (Nat.le_refl _) _⟩
        | true =>
          go_enter Try.func27, Try.ntmps27
          go_wp2
          go_ret
          exact ⟨ret_bool (decide_eq_true (by simp at c1 c2 c3 c4; omega)).symm, (Below.refl _ _).alloc (Nat.le_refl _) _⟩
theorem rightN_any (re im k : Int) (w : World) : Calls Try.prog 16 #[nb re im k] w fun e w' => e = .returned (.bool (rightB (plR re im k) (plI re im k))) ∧ Below w.heap.size w w' := by
  have hb0 := (Below.refl w.heap.size w).alloc (Nat.le_refl _) (Obj.cells #[Value.int .i64 re, Value.int .i64 im, Value.int .i64 k] 24)
  have hs0 := hb0.size
  go_enter Try.func16, Try.ntmps16
  go_wp2_with fail
  refine (plainN_any re im k _).mono ?_
  rintro e w1 ⟨rfl, hb1⟩
  have hb1 := hb0.trans (hb1.mono hs0)
  go_wp2_with fail
  refine (rightZ_any _ _ _).mono ?_
  rintro e w2 ⟨rfl, hb2⟩
  have hb2 := hb1.trans (hb2.mono hb1.size)
  go_wp2
  go_ret
  exact ⟨rfl, hb2⟩
theorem addZ_any (R I S J : Int) (h1 : IntKind.i64.wrap (R + S) = R + S) (h2 : IntKind.i64.wrap (I + J) = I + J) (w : World) : Calls Try.prog 26 #[zz R I, zz S J] w fun e w' => e = .returned (zz (R + S) (I + J)) ∧ Below w.heap.size w w' := by
  go_enter Try.func26, Try.ntmps26
  go_wp2
  refine bodyPost_ret (results_cell_row rfl _ _ (w.heap.size + 1 + 1) 39 #[.int .i64 (R + S), .int .i64 (I + J)] (0, 0) _ rfl (three_allocs _ _ _ _ _) Try.underlying39 rfl (by kernel_rfl)) rfl ⟨rfl, below3 _ _ _ _⟩
theorem lessZ_any (R I S J : Int) (h1 : IntKind.i64.wrap (R - S) = R - S) (h2 : IntKind.i64.wrap (I - J) = I - J) (w : World) : Calls Try.prog 25 #[zz R I, zz S J] w fun e w' => e = .returned (zz (R - S) (I - J)) ∧ Below w.heap.size w w' := by
  go_enter Try.func25, Try.ntmps25
  go_wp2
  refine bodyPost_ret (results_cell_row rfl _ _ (w.heap.size + 1 + 1) 39 #[.int .i64 (R - S), .int .i64 (I - J)] (0, 0) _ rfl (three_allocs _ _ _ _ _) Try.underlying39 rfl (by kernel_rfl)) rfl ⟨rfl, below3 _ _ _ _⟩
theorem timesZ_any (R I S J : Int) (h1 : IntKind.i64.wrap (R * S) = R * S) (h2 : IntKind.i64.wrap (I * J) = I * J) (h3 : IntKind.i64.wrap (R * J) = R * J) (h4 : IntKind.i64.wrap (I * S) = I * S)
    (h5 : IntKind.i64.wrap (R * S - I * J) = R * S - I * J) (h6 : IntKind.i64.wrap (R * J + I * S) = R * J + I * S) (w : World) : Calls Try.prog 24 #[zz R I, zz S J] w fun e w' => e = .returned (zz (R * S - I * J) (R * J + I * S)) ∧ Below w.heap.size w w' := by
  go_enter Try.func24, Try.ntmps24
  go_wp2
  refine bodyPost_ret (results_cell_row rfl _ _ (w.heap.size + 1 + 1) 39 #[.int .i64 (R * S - I * J), .int .i64 (R * J + I * S)] (0, 0) _ rfl (three_allocs _ _ _ _ _) Try.underlying39 rfl (by kernel_rfl)) rfl ⟨rfl, below3 _ _ _ _⟩
end Go.Proofs.Ytbgllbjkmjlipaa
