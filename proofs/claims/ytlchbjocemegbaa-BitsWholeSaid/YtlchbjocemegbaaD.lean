/- The walk of BitsApart: true for every input. -/
import Derived.Test.YtlchbjocemegbaaB1
namespace Go.Proofs.Ytlchbjocemegbaa
open Go.RowKit Go.Shelf
attribute [local go_sem ↓] Go.wp_at_zero Go.wp_at_succ

abbrev Six (w : World) (v0 v1 v2 v3 v4 v5 : Value) (W : World) : Prop :=
  W.cell? ⟨w.heap.size, 0, none⟩ = some v0 ∧ W.cell? ⟨w.heap.size, 1, none⟩ = some v1 ∧ W.cell? ⟨w.heap.size, 2, none⟩ = some v2 ∧ W.cell? ⟨w.heap.size, 3, none⟩ = some v3 ∧ W.cell? ⟨w.heap.size + 1, 0, none⟩ = some v4 ∧ W.cell? ⟨w.heap.size + 1, 1, none⟩ = some v5 ∧ Below w.heap.size w W ∧ w.heap.size + 1 < W.heap.size
theorem keep6 {w W W' : World} {v0 v1 v2 v3 v4 v5 : Value} (h : Six w v0 v1 v2 v3 v4 v5 W) (hb : Below W.heap.size W W') : Six w v0 v1 v2 v3 v4 v5 W' := by
  obtain ⟨h0, h1, h2, h3, h4, h5, h6, h7⟩ := h
  have hs := hb.size
  have hl : w.heap.size < W.heap.size := by omega
  exact ⟨(hb.cell (p := ⟨w.heap.size, 0, none⟩) hl).trans h0, (hb.cell (p := ⟨w.heap.size, 1, none⟩) hl).trans h1, (hb.cell (p := ⟨w.heap.size, 2, none⟩) hl).trans h2, (hb.cell (p := ⟨w.heap.size, 3, none⟩) hl).trans h3,
    (hb.cell (p := ⟨w.heap.size + 1, 0, none⟩) h7).trans h4, (hb.cell (p := ⟨w.heap.size + 1, 1, none⟩) h7).trans h5, h6.trans (hb.mono (by omega)), by omega⟩
theorem six_drew {w W : World} {v0 v1 v2 v3 v4 v5 : Value} (h : Six w v0 v1 v2 v3 v4 v5 W) : Six w v0 v1 v2 v3 v4 v5 W.drew := ⟨h.1, h.2.1, h.2.2.1, h.2.2.2.1, h.2.2.2.2.1, h.2.2.2.2.2.1, h.2.2.2.2.2.2.1.drew, h.2.2.2.2.2.2.2⟩
theorem six_new (w : World) (v0 v1 v2 v3 v4 v5 : Value) (t t' : TypeId) : Six w v0 v1 v2 v3 v4 v5 ((w.alloc (.cells #[v0, v1, v2, v3] t)).alloc (.cells #[v4, v5] t')) := by
  have e : (w.alloc (.cells #[v0, v1, v2, v3] t)).heap.size = w.heap.size + 1 := by simp
  have hl : w.heap.size < (w.alloc (.cells #[v0, v1, v2, v3] t)).heap.size := by omega
  have c : ∀ i, ((w.alloc (.cells #[v0, v1, v2, v3] t)).alloc (.cells #[v4, v5] t')).cell? ⟨w.heap.size, i, none⟩ = (w.alloc (.cells #[v0, v1, v2, v3] t)).cell? ⟨w.heap.size, i, none⟩ := fun i => World.cell?_alloc_lt _ _ _ hl
  refine ⟨?_, ?_, ?_, ?_, ?_, ?_, ((Below.refl _ _).alloc (Nat.le_refl _) _).alloc (by omega) _, by simp⟩
  · rw [c, cell_of_row _ _ _ _ _ _ (heap_alloc_new w _)]; rfl
  · rw [c, cell_of_row _ _ _ _ _ _ (heap_alloc_new w _)]; rfl
  · rw [c, cell_of_row _ _ _ _ _ _ (heap_alloc_new w _)]; rfl
  · rw [c, cell_of_row _ _ _ _ _ _ (heap_alloc_new w _)]; rfl
  · rw [← e, cell_of_row _ _ _ _ _ _ (heap_alloc_new _ _)]; rfl
  · rw [← e, cell_of_row _ _ _ _ _ _ (heap_alloc_new _ _)]; rfl

set_option maxRecDepth 100000 in
set_option maxHeartbeats 4000000 in
theorem bitsApart_bad1 (A L B M : Int) (x s t p q : Nat) (c1 c2 : Int)
    (hP : Says 21 #[fld A L, .int .u64 x, .int .u64 s] (.tuple #[.int .u64 p, .int .i64 c1])) (hQ : Says 21 #[fld B M, .int .u64 x, .int .u64 t] (.tuple #[.int .u64 q, .int .i64 c2]))
    (e1 : (c1 != 0) = true) (w : World) :
    Calls Try.prog 5 #[.agg #[.int .i64 A, .int .i64 L, .int .i64 B, .int .i64 M], .int .u64 x, .agg #[.int .u64 s, .int .u64 t]] w fun e w' => e = .returned (.bool true) ∧ Below w.heap.size w w' := by
  have hK := six_new w (.int .i64 A) (.int .i64 L) (.int .i64 B) (.int .i64 M) (.int .u64 s) (.int .u64 t) 41 42
  obtain ⟨k0, k1, k2, k3, k4, k5, _⟩ := id hK
  go_enter Try.func5, Try.ntmps5
  go_wp2_with fail
  refine (hP _).mono ?_
  rintro e w1 ⟨rfl, hbw⟩
  have hK := keep6 hK hbw
  obtain ⟨k0, k1, k2, k3, k4, k5, _⟩ := id hK
  clear hbw
  go_wp2_with fail
  refine (hQ _).mono ?_
  rintro e w1 ⟨rfl, hbw⟩
  have hK := keep6 hK hbw
  obtain ⟨k0, k1, k2, k3, k4, k5, _⟩ := id hK
  clear hbw
  go_wp2_with fail
  refine (awake_any _).mono ?_
  rintro e w1 ⟨rfl, hbw⟩
  have hK := keep6 hK hbw
  obtain ⟨k0, k1, k2, k3, k4, k5, _⟩ := id hK
  clear hbw
  go_wp2
  go_ret
  exact ⟨rfl, hK.2.2.2.2.2.2.1⟩

set_option maxRecDepth 100000 in
set_option maxHeartbeats 4000000 in
theorem bitsApart_bad2 (A L B M : Int) (x s t p q : Nat) (c1 c2 : Int)
    (hP : Says 21 #[fld A L, .int .u64 x, .int .u64 s] (.tuple #[.int .u64 p, .int .i64 c1])) (hQ : Says 21 #[fld B M, .int .u64 x, .int .u64 t] (.tuple #[.int .u64 q, .int .i64 c2]))
    (e1 : (c1 != 0) = false) (e2 : (c2 != 0) = true) (w : World) :
    Calls Try.prog 5 #[.agg #[.int .i64 A, .int .i64 L, .int .i64 B, .int .i64 M], .int .u64 x, .agg #[.int .u64 s, .int .u64 t]] w fun e w' => e = .returned (.bool true) ∧ Below w.heap.size w w' := by
  have hK := six_new w (.int .i64 A) (.int .i64 L) (.int .i64 B) (.int .i64 M) (.int .u64 s) (.int .u64 t) 41 42
  obtain ⟨k0, k1, k2, k3, k4, k5, _⟩ := id hK
  go_enter Try.func5, Try.ntmps5
  go_wp2_with fail
  refine (hP _).mono ?_
  rintro e w1 ⟨rfl, hbw⟩
  have hK := keep6 hK hbw
  obtain ⟨k0, k1, k2, k3, k4, k5, _⟩ := id hK
  clear hbw
  go_wp2_with fail
  refine (hQ _).mono ?_
  rintro e w1 ⟨rfl, hbw⟩
  have hK := keep6 hK hbw
  obtain ⟨k0, k1, k2, k3, k4, k5, _⟩ := id hK
  clear hbw
  go_wp2_with fail
  refine (awake_any _).mono ?_
  rintro e w1 ⟨rfl, hbw⟩
  have hK := keep6 hK hbw
  obtain ⟨k0, k1, k2, k3, k4, k5, _⟩ := id hK
  clear hbw
  go_wp2
  go_ret
  exact ⟨rfl, hK.2.2.2.2.2.2.1⟩

set_option maxRecDepth 100000 in
set_option maxHeartbeats 4000000 in
theorem bitsApart_ov1 (A L B M : Nat) (x s t p q : Nat) (hA : A ≤ 63) (hL : L ≤ 64) (hB : B ≤ 63) (hM : M ≤ 64) (h : A < B ∧ B < A + L) 
    (hP : Says 21 #[fld A L, .int .u64 x, .int .u64 s] (.tuple #[.int .u64 p, .int .i64 0])) (hQ : Says 21 #[fld B M, .int .u64 x, .int .u64 t] (.tuple #[.int .u64 q, .int .i64 0])) (w : World) :
    Calls Try.prog 5 #[.agg #[.int .i64 A, .int .i64 L, .int .i64 B, .int .i64 M], .int .u64 x, .agg #[.int .u64 s, .int .u64 t]] w fun e w' => e = .returned (.bool true) ∧ Below w.heap.size w w' := by
  have ew1 : IntKind.i64.wrap ((A : Int) + (L : Int)) = A + L := IntWalk.i64_in _ (by omega)
  have ew2 : IntKind.i64.wrap ((B : Int) + (M : Int)) = B + M := IntWalk.i64_in _ (by omega)
  have ez : ((0 : Int) != 0) = false := by decide
  have ey : ((0 : Int) == 0) = true := by decide
  have es : ((s : Int) == (s : Int)) = true := by simp
  have et : ((t : Int) == (t : Int)) = true := by simp
  have f1 : decide (A < B) = true := by simp <;> omega
  have f1i : decide ((A : Int) < (B : Int)) = true := by simp <;> omega
  have f2 : decide (B < A + L) = true := by simp <;> omega
  have f2i : decide ((B : Int) < (A : Int) + (L : Int)) = true := by simp <;> omega
  have hK := six_new w (.int .i64 A) (.int .i64 L) (.int .i64 B) (.int .i64 M) (.int .u64 s) (.int .u64 t) 41 42
  obtain ⟨k0, k1, k2, k3, k4, k5, _⟩ := id hK
  go_enter Try.func5, Try.ntmps5
  go_wp2_with fail
  refine (hP _).mono ?_
  rintro e w1 ⟨rfl, hbw⟩
  have hK := keep6 hK hbw
  obtain ⟨k0, k1, k2, k3, k4, k5, _⟩ := id hK
  clear hbw
  go_wp2_with fail
  refine (hQ _).mono ?_
  rintro e w1 ⟨rfl, hbw⟩
  have hK := keep6 hK hbw
  obtain ⟨k0, k1, k2, k3, k4, k5, _⟩ := id hK
  clear hbw
  go_wp2_with fail
  refine (awake_any _).mono ?_
  rintro e w1 ⟨rfl, hbw⟩
  have hK := keep6 hK hbw
  obtain ⟨k0, k1, k2, k3, k4, k5, _⟩ := id hK
  clear hbw
  go_wp2
  go_ret
  exact ⟨rfl, hK.2.2.2.2.2.2.1⟩

set_option maxRecDepth 100000 in
set_option maxHeartbeats 4000000 in
theorem bitsApart_ap1 (A L B M : Nat) (x s t p q : Nat) (r : Nat) (hA : A ≤ 63) (hL : L ≤ 64) (hB : B ≤ 63) (hM : M ≤ 64) (h : A < B ∧ A + L ≤ B) 
    (hP : Says 21 #[fld A L, .int .u64 x, .int .u64 s] (.tuple #[.int .u64 p, .int .i64 0])) (hQ : Says 21 #[fld B M, .int .u64 x, .int .u64 t] (.tuple #[.int .u64 q, .int .i64 0]))
    (h1 : Says 21 #[fld B M, .int .u64 p, .int .u64 t] (.tuple #[.int .u64 r, .int .i64 0])) (h2 : Says 21 #[fld A L, .int .u64 q, .int .u64 s] (.tuple #[.int .u64 r, .int .i64 0]))
    (hr : r < 18446744073709551616) (h3 : getF A L r = s) (h4 : getF B M r = t) (w : World) :
    Calls Try.prog 5 #[.agg #[.int .i64 A, .int .i64 L, .int .i64 B, .int .i64 M], .int .u64 x, .agg #[.int .u64 s, .int .u64 t]] w fun e w' => e = .returned (.bool true) ∧ Below w.heap.size w w' := by
  have ew1 : IntKind.i64.wrap ((A : Int) + (L : Int)) = A + L := IntWalk.i64_in _ (by omega)
  have ew2 : IntKind.i64.wrap ((B : Int) + (M : Int)) = B + M := IntWalk.i64_in _ (by omega)
  have ez : ((0 : Int) != 0) = false := by decide
  have ey : ((0 : Int) == 0) = true := by decide
  have es : ((s : Int) == (s : Int)) = true := by simp
  have et : ((t : Int) == (t : Int)) = true := by simp
  have er : ((r : Int) == (r : Int)) = true := by simp
  have eg1 : (((getF A L r : Nat) : Int) == (s : Int)) = true := by rw [h3]; simp
  have eg2 : (((getF B M r : Nat) : Int) == (t : Int)) = true := by rw [h4]; simp
  clear h3 h4
  have f1 : decide (A < B) = true := by simp <;> omega
  have f1i : decide ((A : Int) < (B : Int)) = true := by simp <;> omega
  have f2 : decide (B < A + L) = false := by simp <;> omega
  have f2i : decide ((B : Int) < (A : Int) + (L : Int)) = false := by simp <;> omega
  have f3 : decide (B ≤ A) = false := by simp <;> omega
  have f3i : decide ((B : Int) ≤ (A : Int)) = false := by simp <;> omega
  have hK := six_new w (.int .i64 A) (.int .i64 L) (.int .i64 B) (.int .i64 M) (.int .u64 s) (.int .u64 t) 41 42
  obtain ⟨k0, k1, k2, k3, k4, k5, _⟩ := id hK
  go_enter Try.func5, Try.ntmps5
  go_wp2_with fail
  refine (hP _).mono ?_
  rintro e w1 ⟨rfl, hbw⟩
  have hK := keep6 hK hbw
  obtain ⟨k0, k1, k2, k3, k4, k5, _⟩ := id hK
  clear hbw
  go_wp2_with fail
  refine (hQ _).mono ?_
  rintro e w1 ⟨rfl, hbw⟩
  have hK := keep6 hK hbw
  obtain ⟨k0, k1, k2, k3, k4, k5, _⟩ := id hK
  clear hbw
  go_wp2_with fail
  refine (h1 _).mono ?_
  rintro e w1 ⟨rfl, hbw⟩
  have hK := keep6 hK hbw
  obtain ⟨k0, k1, k2, k3, k4, k5, _⟩ := id hK
  clear hbw
  go_wp2_with fail
  refine (h2 _).mono ?_
  rintro e w1 ⟨rfl, hbw⟩
  have hK := keep6 hK hbw
  obtain ⟨k0, k1, k2, k3, k4, k5, _⟩ := id hK
  clear hbw
  go_wp2_with fail
  go_region_held3 (fun W => W.cell? ⟨w.heap.size, 0, none⟩ = some (.int .i64 A) ∧ W.cell? ⟨w.heap.size, 1, none⟩ = some (.int .i64 L) ∧ W.cell? ⟨w.heap.size, 2, none⟩ = some (.int .i64 B) ∧ W.cell? ⟨w.heap.size, 3, none⟩ = some (.int .i64 M) ∧ W.cell? ⟨w.heap.size + 1, 0, none⟩ = some (.int .u64 s) ∧ W.cell? ⟨w.heap.size + 1, 1, none⟩ = some (.int .u64 t) ∧ Below w.heap.size w W ∧ w.heap.size + 1 < W.heap.size)
    (first | exact keep6 (by assumption) hbw | exact six_drew (by assumption))
    (first
      | (go_at_call 16; refine (get_any _ _ _ hr _).mono ?_; rintro e w1 ⟨rfl, hbw⟩)
      | (go_at_call 20; refine (awake_any _).mono ?_; rintro e w1 ⟨rfl, hbw⟩))
  rename_i hK
  go_wp2
  go_ret
  exact ⟨rfl, hK.2.2.2.2.2.2.1⟩

set_option maxRecDepth 100000 in
set_option maxHeartbeats 4000000 in
theorem bitsApart_ov2 (A L B M : Nat) (x s t p q : Nat) (hA : A ≤ 63) (hL : L ≤ 64) (hB : B ≤ 63) (hM : M ≤ 64) (h : B ≤ A ∧ A < B + M) 
    (hP : Says 21 #[fld A L, .int .u64 x, .int .u64 s] (.tuple #[.int .u64 p, .int .i64 0])) (hQ : Says 21 #[fld B M, .int .u64 x, .int .u64 t] (.tuple #[.int .u64 q, .int .i64 0])) (w : World) :
    Calls Try.prog 5 #[.agg #[.int .i64 A, .int .i64 L, .int .i64 B, .int .i64 M], .int .u64 x, .agg #[.int .u64 s, .int .u64 t]] w fun e w' => e = .returned (.bool true) ∧ Below w.heap.size w w' := by
  have ew1 : IntKind.i64.wrap ((A : Int) + (L : Int)) = A + L := IntWalk.i64_in _ (by omega)
  have ew2 : IntKind.i64.wrap ((B : Int) + (M : Int)) = B + M := IntWalk.i64_in _ (by omega)
  have ez : ((0 : Int) != 0) = false := by decide
  have ey : ((0 : Int) == 0) = true := by decide
  have es : ((s : Int) == (s : Int)) = true := by simp
  have et : ((t : Int) == (t : Int)) = true := by simp
  have f1 : decide (A < B) = false := by simp <;> omega
  have f1i : decide ((A : Int) < (B : Int)) = false := by simp <;> omega
  have f3 : decide (B ≤ A) = true := by simp <;> omega
  have f3i : decide ((B : Int) ≤ (A : Int)) = true := by simp <;> omega
  have f4 : decide (A < B + M) = true := by simp <;> omega
  have f4i : decide ((A : Int) < (B : Int) + (M : Int)) = true := by simp <;> omega
  have hK := six_new w (.int .i64 A) (.int .i64 L) (.int .i64 B) (.int .i64 M) (.int .u64 s) (.int .u64 t) 41 42
  obtain ⟨k0, k1, k2, k3, k4, k5, _⟩ := id hK
  go_enter Try.func5, Try.ntmps5
  go_wp2_with fail
  refine (hP _).mono ?_
  rintro e w1 ⟨rfl, hbw⟩
  have hK := keep6 hK hbw
  obtain ⟨k0, k1, k2, k3, k4, k5, _⟩ := id hK
  clear hbw
  go_wp2_with fail
  refine (hQ _).mono ?_
  rintro e w1 ⟨rfl, hbw⟩
  have hK := keep6 hK hbw
  obtain ⟨k0, k1, k2, k3, k4, k5, _⟩ := id hK
  clear hbw
  go_wp2_with fail
  refine (awake_any _).mono ?_
  rintro e w1 ⟨rfl, hbw⟩
  have hK := keep6 hK hbw
  obtain ⟨k0, k1, k2, k3, k4, k5, _⟩ := id hK
  clear hbw
  go_wp2
  go_ret
  exact ⟨rfl, hK.2.2.2.2.2.2.1⟩

set_option maxRecDepth 100000 in
set_option maxHeartbeats 4000000 in
theorem bitsApart_ap2 (A L B M : Nat) (x s t p q : Nat) (r : Nat) (hA : A ≤ 63) (hL : L ≤ 64) (hB : B ≤ 63) (hM : M ≤ 64) (h : B ≤ A ∧ B + M ≤ A) 
    (hP : Says 21 #[fld A L, .int .u64 x, .int .u64 s] (.tuple #[.int .u64 p, .int .i64 0])) (hQ : Says 21 #[fld B M, .int .u64 x, .int .u64 t] (.tuple #[.int .u64 q, .int .i64 0]))
    (h1 : Says 21 #[fld B M, .int .u64 p, .int .u64 t] (.tuple #[.int .u64 r, .int .i64 0])) (h2 : Says 21 #[fld A L, .int .u64 q, .int .u64 s] (.tuple #[.int .u64 r, .int .i64 0]))
    (hr : r < 18446744073709551616) (h3 : getF A L r = s) (h4 : getF B M r = t) (w : World) :
    Calls Try.prog 5 #[.agg #[.int .i64 A, .int .i64 L, .int .i64 B, .int .i64 M], .int .u64 x, .agg #[.int .u64 s, .int .u64 t]] w fun e w' => e = .returned (.bool true) ∧ Below w.heap.size w w' := by
  have ew1 : IntKind.i64.wrap ((A : Int) + (L : Int)) = A + L := IntWalk.i64_in _ (by omega)
  have ew2 : IntKind.i64.wrap ((B : Int) + (M : Int)) = B + M := IntWalk.i64_in _ (by omega)
  have ez : ((0 : Int) != 0) = false := by decide
  have ey : ((0 : Int) == 0) = true := by decide
  have es : ((s : Int) == (s : Int)) = true := by simp
  have et : ((t : Int) == (t : Int)) = true := by simp
  have er : ((r : Int) == (r : Int)) = true := by simp
  have eg1 : (((getF A L r : Nat) : Int) == (s : Int)) = true := by rw [h3]; simp
  have eg2 : (((getF B M r : Nat) : Int) == (t : Int)) = true := by rw [h4]; simp
  clear h3 h4
  have f1 : decide (A < B) = false := by simp <;> omega
  have f1i : decide ((A : Int) < (B : Int)) = false := by simp <;> omega
  have f3 : decide (B ≤ A) = true := by simp <;> omega
  have f3i : decide ((B : Int) ≤ (A : Int)) = true := by simp <;> omega
  have f4 : decide (A < B + M) = false := by simp <;> omega
  have f4i : decide ((A : Int) < (B : Int) + (M : Int)) = false := by simp <;> omega
  have hK := six_new w (.int .i64 A) (.int .i64 L) (.int .i64 B) (.int .i64 M) (.int .u64 s) (.int .u64 t) 41 42
  obtain ⟨k0, k1, k2, k3, k4, k5, _⟩ := id hK
  go_enter Try.func5, Try.ntmps5
  go_wp2_with fail
  refine (hP _).mono ?_
  rintro e w1 ⟨rfl, hbw⟩
  have hK := keep6 hK hbw
  obtain ⟨k0, k1, k2, k3, k4, k5, _⟩ := id hK
  clear hbw
  go_wp2_with fail
  refine (hQ _).mono ?_
  rintro e w1 ⟨rfl, hbw⟩
  have hK := keep6 hK hbw
  obtain ⟨k0, k1, k2, k3, k4, k5, _⟩ := id hK
  clear hbw
  go_wp2_with fail
  refine (h1 _).mono ?_
  rintro e w1 ⟨rfl, hbw⟩
  have hK := keep6 hK hbw
  obtain ⟨k0, k1, k2, k3, k4, k5, _⟩ := id hK
  clear hbw
  go_wp2_with fail
  refine (h2 _).mono ?_
  rintro e w1 ⟨rfl, hbw⟩
  have hK := keep6 hK hbw
  obtain ⟨k0, k1, k2, k3, k4, k5, _⟩ := id hK
  clear hbw
  go_wp2_with fail
  go_region_held3 (fun W => W.cell? ⟨w.heap.size, 0, none⟩ = some (.int .i64 A) ∧ W.cell? ⟨w.heap.size, 1, none⟩ = some (.int .i64 L) ∧ W.cell? ⟨w.heap.size, 2, none⟩ = some (.int .i64 B) ∧ W.cell? ⟨w.heap.size, 3, none⟩ = some (.int .i64 M) ∧ W.cell? ⟨w.heap.size + 1, 0, none⟩ = some (.int .u64 s) ∧ W.cell? ⟨w.heap.size + 1, 1, none⟩ = some (.int .u64 t) ∧ Below w.heap.size w W ∧ w.heap.size + 1 < W.heap.size)
    (first | exact keep6 (by assumption) hbw | exact six_drew (by assumption))
    (first
      | (go_at_call 16; refine (get_any _ _ _ hr _).mono ?_; rintro e w1 ⟨rfl, hbw⟩)
      | (go_at_call 20; refine (awake_any _).mono ?_; rintro e w1 ⟨rfl, hbw⟩))
  rename_i hK
  go_wp2
  go_ret
  exact ⟨rfl, hK.2.2.2.2.2.2.1⟩

end Go.Proofs.Ytlchbjocemegbaa
