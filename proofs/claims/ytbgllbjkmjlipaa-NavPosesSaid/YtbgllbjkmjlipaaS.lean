/- Contract: Blend. -/
import Derived.Test.YtbgllbjkmjlipaaR
namespace Go.Proofs.Ytbgllbjkmjlipaa
open Go.RowKit
attribute [local go_sem] fmt64
attribute [local go_sem ↓] st45
attribute [local go_sem] st45_run

/-- A part, so many sixteenths nearer to another one. -/
def partF (a b k : Int) : Int := a + ((b - a) * k).tdiv 16
theorem tdiv_bd (d k : Int) (hk : 0 ≤ k ∧ k ≤ 16) (m : Nat) (hd : d.natAbs ≤ m) : ((d * k).tdiv 16).natAbs ≤ m := by
  obtain ⟨j, rfl⟩ : ∃ j : Nat, k = (j : Int) := ⟨k.toNat, by omega⟩
  rw [Int.natAbs_tdiv, Int.natAbs_mul]
  have h1 : (16 : Int).natAbs = 16 := rfl
  rw [h1]
  have h2 : d.natAbs * (j : Int).natAbs ≤ m * 16 := Nat.mul_le_mul hd (by omega)
  exact Nat.div_le_of_le_mul (by omega)
theorem mul_small (d k : Int) (hk : 0 ≤ k ∧ k ≤ 16) (hd : d.natAbs ≤ 2097152) : -33554432 ≤ d * k ∧ d * k ≤ 33554432 := by
  obtain ⟨j, rfl⟩ : ∃ j : Nat, k = (j : Int) := ⟨k.toNat, by omega⟩
  have h2 : d.natAbs * (j : Int).natAbs ≤ 2097152 * 16 := Nat.mul_le_mul hd (by omega)
  have h3 := Int.natAbs_mul d j
  omega
def PW (k : Int) (x y v : Nat) : Prop := ∃ (z z' : Bool) (a b : Int), x = wd z a ∧ y = wd z' b ∧ a.natAbs < 1048576 ∧ b.natAbs < 1048576 ∧ v = wd false (partF a b k)
theorem blend1_any (k : Int) (hk : 0 ≤ k ∧ k ≤ 16) (x y v B : Nat) (h : PW k x y v) (W : World) (hc : W.cell? ⟨B, 0, none⟩ = some (.int .i64 k)) :
    Calls Try.prog 56 #[.float .f64 x, .float .f64 y, .pointer (some ⟨B, 0, none⟩)] W fun e w' => e = .returned (.float .f64 v) ∧ W = w' := by
  obtain ⟨z, z', a, b, rfl, rfl, ha, hb, rfl⟩ := h
  have c1 : ∀ w, (convert 59 3 (.float .f64 (wd z a))).run Try.prog w = .ok (.int .i64 a) w := fun w => run_convert_float_int w 59 3 .f64 .i64 (wd z a) a (by kernel_rfl) (by kernel_rfl) (floatToInt_wd z a (by omega))
  have c2 : ∀ w, (convert 59 3 (.float .f64 (wd z' b))).run Try.prog w = .ok (.int .i64 b) w := fun w => run_convert_float_int w 59 3 .f64 .i64 (wd z' b) b (by kernel_rfl) (by kernel_rfl) (floatToInt_wd z' b (by omega))
  have m1 := mul_small (b - a) k hk (by omega)
  have m2 := tdiv_bd (b - a) k hk 2097152 (by omega)
  have w1 : IntKind.i64.wrap (b - a) = b - a := IntWalk.i64_in _ (by omega)
  have w2 : IntKind.i64.wrap ((b - a) * k) = (b - a) * k := IntWalk.i64_in _ (by omega)
  have w3 : IntKind.i64.wrap (((b - a) * k).tdiv 16) = ((b - a) * k).tdiv 16 := IntWalk.i64_in _ (by omega)
  have o1 := ofInt_wd (((b - a) * k).tdiv 16)
  have ad := add_wd z false a (((b - a) * k).tdiv 16) (by omega) (by omega) (by omega)
  rw [show (decide (a = 0) && z && false) = false by simp] at ad
  have ra : ∀ w, (binOp .add 59 (.float .f64 (wd z a)) (.float .f64 (wd false (((b - a) * k).tdiv 16)))).run Try.prog w = .ok (.float .f64 (wd false (a + ((b - a) * k).tdiv 16))) w := fun w => run_float_arith w .add 59 .f64 _ _ _ ad
  clear m1 m2 ad ha hb
  unfold partF
  go_enter Try.func56, Try.ntmps56
  go_wp2
  go_ret
  exact ⟨rfl, rfl⟩

/-- A pose's box, the weight's, and the result's row. -/
structure Box3 (w : World) (x1 y1 x2 y2 x3 y3 : Nat) (k : Int) (W : World) : Prop where
  row : W.heap[w.heap.size]? = some (.cells #[cx x1 y1, cx x2 y2, cx x3 y3] 45 (0, 0))
  wt : Boxed W (w.heap.size + 1) 3 (.int .i64 k)
  res : RR (w.heap.size + 1 + 1) 3 45 W
  below : Below w.heap.size w W
  lt : w.heap.size + 1 + 1 < W.heap.size
section
variable {w W W' : World} {x1 y1 x2 y2 x3 y3 : Nat} {k : Int}
theorem Box3.new (w : World) (x1 y1 x2 y2 x3 y3 : Nat) (k : Int) : Box3 w x1 y1 x2 y2 x3 y3 k (((w.alloc (.cells #[cx x1 y1, cx x2 y2, cx x3 y3] 45)).alloc (.cells #[.int .i64 k] 3)).alloc (.cells #[.complex .f64 0 0, .complex .f64 0 0, .complex .f64 0 0] 45)) :=
  ⟨by rw [Below.heap_alloc _ _ _ (by simp <;> omega), Below.heap_alloc _ _ _ (by simp)]; exact heap_alloc_new w _, (boxed_at (by simp) 3 _).alloc _, ⟨_, rfl, three_allocs _ _ _ _ _⟩, below3a _ _ _ _, by simp⟩
theorem Box3.bel (h : Box3 w x1 y1 x2 y2 x3 y3 k W) (hb : Below W.heap.size W W') : Box3 w x1 y1 x2 y2 x3 y3 k W' := by
  obtain ⟨h1, h2, h3, h4, h5⟩ := h
  have := hb.size
  exact ⟨(hb.block _ (by omega)).trans h1, Boxed.bel h2 hb (by omega), h3.below hb h5, h4.trans (hb.mono (by omega)), by omega⟩
theorem Box3.c0 (h : Box3 w x1 y1 x2 y2 x3 y3 k W) : W.cell? ⟨w.heap.size, 0, none⟩ = some (cx x1 y1) := by rw [cell_of_row _ _ _ _ _ _ h.row]; rfl
theorem Box3.c1 (h : Box3 w x1 y1 x2 y2 x3 y3 k W) : W.cell? ⟨w.heap.size, 1, none⟩ = some (cx x2 y2) := by rw [cell_of_row _ _ _ _ _ _ h.row]; rfl
theorem Box3.c2 (h : Box3 w x1 y1 x2 y2 x3 y3 k W) : W.cell? ⟨w.heap.size, 2, none⟩ = some (cx x3 y3) := by rw [cell_of_row _ _ _ _ _ _ h.row]; rfl
theorem box3_res {fn : Func} {p q : Tmp} (hf : fn.results = #[.cell p 45, .tmp q]) (h : Box3 w x1 y1 x2 y2 x3 y3 k W) (tmps : Array Value) (a1 b1 a2 b2 a3 b3 : Nat) (e : Int)
    (hp : tmps.getD p undef = .pointer (some ⟨w.heap.size + 1 + 1, 0, none⟩)) (hq : tmps.getD q undef = .int .i64 e) {R : Ending → World → Prop}
    (hR : ∀ W', Below w.heap.size w W' → R (.returned (pairP a1 b1 a2 b2 a3 b3 e)) W') :
    bodyPost Try.prog fn R .ret { tmps := tmps, defers := [] } (W.setRow (w.heap.size + 1 + 1) #[cx a1 b1, cx a2 b2, cx a3 b3]) := by
  refine bodyPost_ret (results_row_tmp hf _ _ (w.heap.size + 1 + 1) 45 #[cx a1 b1, cx a2 b2, cx a3 b3] (0, 0) _ hp (h.res.setRow_row _) Try.underlying45 rfl (by kernel_rfl)) rfl ?_
  rw [hq]
  exact hR _ (below_setRow h.below (by omega) _)
end

set_option maxRecDepth 100000 in
theorem blend_no (x1 y1 x2 y2 x3 y3 x y : Nat) (k c : Int) (hc : ∀ w, Calls Try.prog 29 #[ps x1 y1 x2 y2 x3 y3] w fun e w' => e = .returned (.int .i64 c) ∧ Below w.heap.size w w') (h0 : c ≠ 0) (w : World) :
    Calls Try.prog 33 #[ps x1 y1 x2 y2 x3 y3, cx x y, .int .i64 k] w fun e w' => e = .returned (pairP 0 0 0 0 0 0 c) ∧ Below w.heap.size w w' := by
  have e1 : (c != 0) = true := by simp [bne, h0]
  have HB := Lib.hid (Box3.new w x1 y1 x2 y2 x3 y3 k)
  clear h0
  go_enter Try.func33, Try.ntmps33
  go_wp2_with fail
  refine (hc _).mono ?_
  rintro e w1 ⟨rfl, hb1⟩
  have h1 := HB.out.bel hb1
  have H1 := Lib.hid h1
  have r1 := h1.res
  clear h1 hb1 HB
  go_wp2
  exact box3_res rfl H1.out _ _ _ _ _ _ _ _ rfl rfl fun _ h => ⟨rfl, h⟩
set_option maxRecDepth 100000 in
theorem blend_bad (x1 y1 x2 y2 x3 y3 x y : Nat) (k : Int) (hc : ∀ w, Calls Try.prog 29 #[ps x1 y1 x2 y2 x3 y3] w fun e w' => e = .returned (.int .i64 0) ∧ Below w.heap.size w w') (hm : mayZ x y = false ∨ k < 0 ∨ 16 < k) (w : World) :
    Calls Try.prog 33 #[ps x1 y1 x2 y2 x3 y3, cx x y, .int .i64 k] w fun e w' => e = .returned (pairP 0 0 0 0 0 0 10) ∧ Below w.heap.size w w' := by
  have ha := may_any x y
  have HB := Lib.hid (Box3.new w x1 y1 x2 y2 x3 y3 k)
  generalize mayZ x y = m at ha hm
  cases m with
  | false =>
    clear hm
    go_enter Try.func33, Try.ntmps33
    go_wp2_with fail
    refine (hc _).mono ?_
    rintro e w1 ⟨rfl, hb1⟩
    have H1 := Lib.hid (HB.out.bel hb1)
    clear hb1 HB
    go_wp2_with fail
    refine (ha _).mono ?_
    rintro e w2 ⟨rfl, hb2⟩
    have h2 := H1.out.bel hb2
    have H2 := Lib.hid h2
    have r2 := h2.res
    clear h2 hb2 H1
    go_wp2
    exact box3_res rfl H2.out _ _ _ _ _ _ _ _ rfl rfl fun _ h => ⟨rfl, h⟩
  | true =>
    by_cases k0 : k < 0
    · have d0 : decide (k < 0) = true := by simpa using k0
      clear hm k0
      go_enter Try.func33, Try.ntmps33
      go_wp2_with fail
      refine (hc _).mono ?_
      rintro e w1 ⟨rfl, hb1⟩
      have H1 := Lib.hid (HB.out.bel hb1)
      clear hb1 HB
      go_wp2_with fail
      refine (ha _).mono ?_
      rintro e w2 ⟨rfl, hb2⟩
      have h2 := H1.out.bel hb2
      have H2 := Lib.hid h2
      have r2 := h2.res
      have z2 := h2.wt.cell
      clear h2 hb2 H1
      go_wp2
      exact box3_res rfl H2.out _ _ _ _ _ _ _ _ rfl rfl fun _ h => ⟨rfl, h⟩
    · have d0 : decide (k < 0) = false := by simpa using k0
      have d1 : decide (16 < k) = true := by simp at hm ⊢; omega
      clear hm k0
      go_enter Try.func33, Try.ntmps33
      go_wp2_with fail
      refine (hc _).mono ?_
      rintro e w1 ⟨rfl, hb1⟩
      have H1 := Lib.hid (HB.out.bel hb1)
      clear hb1 HB
      go_wp2_with fail
      refine (ha _).mono ?_
      rintro e w2 ⟨rfl, hb2⟩
      have h2 := H1.out.bel hb2
      have H2 := Lib.hid h2
      have r2 := h2.res
      have z2 := h2.wt.cell
      clear h2 hb2 H1
      go_wp2
      exact box3_res rfl H2.out _ _ _ _ _ _ _ _ rfl rfl fun _ h => ⟨rfl, h⟩

/-- The same, limb by limb: for the region. -/
abbrev Four (w : World) (x1 y1 x2 y2 x3 y3 : Nat) (k : Int) (W : World) : Prop :=
  W.cell? ⟨w.heap.size, 0, none⟩ = some (cx x1 y1) ∧ W.cell? ⟨w.heap.size, 1, none⟩ = some (cx x2 y2) ∧ W.cell? ⟨w.heap.size, 2, none⟩ = some (cx x3 y3) ∧ W.cell? ⟨w.heap.size + 1, 0, none⟩ = some (.int .i64 k) ∧ RR (w.heap.size + 1 + 1) 3 45 W ∧ Below w.heap.size w W ∧ w.heap.size + 1 + 1 < W.heap.size
theorem Box3.four {w W : World} {x1 y1 x2 y2 x3 y3 : Nat} {k : Int} (h : Box3 w x1 y1 x2 y2 x3 y3 k W) : Four w x1 y1 x2 y2 x3 y3 k W.drew :=
  ⟨h.c0, h.c1, h.c2, h.wt.cell, h.res, h.below.drew, h.lt⟩
theorem four_below {w W W' : World} {x1 y1 x2 y2 x3 y3 : Nat} {k : Int} (h : Four w x1 y1 x2 y2 x3 y3 k W) (hb : Below W.heap.size W W') : Four w x1 y1 x2 y2 x3 y3 k W' := by
  obtain ⟨h0, h1, h2, h3, hr, hbb, hs⟩ := h
  have hsz := hb.size
  exact ⟨(hb.cell (p := ⟨w.heap.size, 0, none⟩) (show w.heap.size < W.heap.size by omega)).trans h0, (hb.cell (p := ⟨w.heap.size, 1, none⟩) (show w.heap.size < W.heap.size by omega)).trans h1, (hb.cell (p := ⟨w.heap.size, 2, none⟩) (show w.heap.size < W.heap.size by omega)).trans h2, (hb.cell (p := ⟨w.heap.size + 1, 0, none⟩) (show w.heap.size + 1 < W.heap.size by omega)).trans h3, hr.below hb hs, hbb.trans (hb.mono (by omega)), by omega⟩
theorem four_set {w W : World} {x1 y1 x2 y2 x3 y3 : Nat} {k : Int} (h : Four w x1 y1 x2 y2 x3 y3 k W) (v0 v1 v2 : Value) : Four w x1 y1 x2 y2 x3 y3 k (W.setRow (w.heap.size + 1 + 1) #[v0, v1, v2]) := by
  obtain ⟨h0, h1, h2, h3, hr, hb, hs⟩ := h
  exact ⟨(cell_setRow_other W (w.heap.size + 1 + 1) _ _ (by simp <;> omega)).trans h0, (cell_setRow_other W (w.heap.size + 1 + 1) _ _ (by simp <;> omega)).trans h1, (cell_setRow_other W (w.heap.size + 1 + 1) _ _ (by simp <;> omega)).trans h2, (cell_setRow_other W (w.heap.size + 1 + 1) _ _ (by simp)).trans h3, hr.setRow _ rfl, below_setRow hb (by omega) _, by simpa using hs⟩
end Go.Proofs.Ytbgllbjkmjlipaa
