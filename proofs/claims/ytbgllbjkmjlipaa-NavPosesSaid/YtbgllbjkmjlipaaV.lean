/- Contract: awake, the chapter's examples. -/
import Derived.Deep.WholeRow
import Derived.Test.YtbgllbjkmjlipaaU
namespace Go.Proofs.Ytbgllbjkmjlipaa
open Go.RowKit
attribute [local go_sem] fmt64
attribute [local go_sem ↓] st45
attribute [local go_sem] st45_run
attribute [local go_sem] World.setRow_alloc_new

theorem lit2 : wd false 2 = 4611686018427387904 := by decide
theorem lit3 : wd false 3 = 4613937818241073152 := by decide
theorem lit4 : wd false 4 = 4616189618054758400 := by decide
theorem lit5 : wd false 5 = 4617315517961601024 := by decide
theorem lit6 : wd false 6 = 4618441417868443648 := by decide
theorem lit10 : wd false 10 = 4621819117588971520 := by decide
theorem litm4 : wd false (-4) = 13839561654909534208 := by decide

def gpi (a b : Int) (h : a.natAbs < 1048576 ∧ b.natAbs < 1048576) : GP := ⟨⟨false, a, false, b⟩, h⟩
def tri : List GP := [gpi 0 0 (by decide), gpi 4 0 (by decide), gpi 0 4 (by decide)]
abbrev triRow : Array Value := #[.complex .f64 0 0, .complex .f64 4616189618054758400 0, .complex .f64 0 4616189618054758400]
theorem tri_fence (a b : Int) (h : a.natAbs < 1048576 ∧ b.natAbs < 1048576) (r : Bool) (hr : fenceW a b (upto (way tri) 3) = r) (B : Nat) (t : TypeId) (W : World) (hB : W.heap[B]? = some (.cells triRow t (0, 0))) :
    Calls Try.prog 12 #[.slice (some ⟨B, 0, none⟩) 3 3, cx (wd false a) (wd false b)] W fun e w' => e = .returned (.tuple #[.bool r, .int .i64 0]) ∧ Below W.heap.size W w' := by
  have hl : B < W.heap.size := (Array.getElem?_eq_some_iff.1 hB).1
  refine (callsIn_wide.1 (fence_in B 0 2 3 tri rfl (by omega) (by omega) (gpi a b h) W ?_)).mono ?_
  · intro k hk
    refine ⟨B, 0, rfl, hl, ?_⟩
    rw [cell_of_row _ _ _ _ _ _ hB]
    match k, hk with
    | 0, _ => show some (cx 0 0) = some (cx (wd false 0) (wd false 0)); rw [lit0]
    | 1, _ => show some (cx 4616189618054758400 0) = some (cx (wd false 4) (wd false 0)); rw [lit0, lit4]
    | 2, _ => show some (cx 0 4616189618054758400) = some (cx (wd false 0) (wd false 4)); rw [lit0, lit4]
  · rintro e w' ⟨rfl, hb⟩
    exact ⟨by rw [show (gpi a b h).1.re = a from rfl, show (gpi a b h).1.im = b from rfl, hr], hb⟩

set_option maxRecDepth 100000 in
set_option maxHeartbeats 1000000 in
theorem awake_any (w : World) : Calls Try.prog 11 #[] w fun e w' => e = .returned (.bool true) ∧ Below w.heap.size w w' := by
  have hB : ∀ w, Calls Try.prog 21 #[ps 4613937818241073152 4616189618054758400 0 0 0 4607182418800017408, cx 4607182418800017408 4616189618054758400] w fun e w' => e = .returned (pairC 0 4611686018427387904 0) ∧ Below w.heap.size w w' := fun w => by
    have := body_ok 3 4 0 0 0 1 1 4 (by decide) (by decide) (by decide) (by decide) w
    rw [show toldV ((1 - 3) * 0 - (4 - 4) * -1) ((1 - 3) * -1 + (4 - 4) * 0) = pairC (wd false 0) (wd false 2) 0 from if_pos (by decide), lit0, lit1, lit2, lit3, lit4] at this
    exact this
  have hS : ∀ w, Calls Try.prog 34 #[ps 4613937818241073152 4616189618054758400 0 0 0 4607182418800017408, cx 4621819117588971520 0, .int .i64 5] w fun e w' => e = .returned (pairC 4617315517961601024 13839561654909534208 0) ∧ Below w.heap.size w w' := fun w => by
    have := steer_ok 3 4 0 0 0 1 10 0 5 (by decide) (by decide) (by decide) (by decide) (by decide) w
    rw [show cutF (10 - 3) 5 = 5 by decide, show cutF (0 - 4) 5 = -4 by decide, lit0, lit1, lit3, lit4, lit5, lit10, litm4] at this
    exact this
  have hL : ∀ w, Calls Try.prog 33 #[ps 4613937818241073152 4616189618054758400 0 0 0 4607182418800017408, cx 4621819117588971520 0, .int .i64 8] w fun e w' => e = .returned (pairP 4618441417868443648 4611686018427387904 0 0 0 4607182418800017408 0) ∧ Below w.heap.size w w' := fun w => by
    have := blend_ok 3 4 0 0 0 1 10 0 8 (by decide) (by decide) (by decide) (by decide) (by decide) w
    rw [show partF 3 10 8 = 6 by decide, show partF 4 0 8 = 2 by decide, lit0, lit1, lit2, lit3, lit4, lit6, lit10] at this
    exact this
  have f1 := fun B t W h => by have := tri_fence 1 1 (by decide) true (by decide) B t W h; rw [lit1] at this; exact this
  have f2 := fun B t W h => by have := tri_fence 2 2 (by decide) true (by decide) B t W h; rw [lit2] at this; exact this
  have f3 := fun B t W h => by have := tri_fence 0 0 (by decide) true (by decide) B t W h; rw [lit0] at this; exact this
  have f4 := fun B t W h => by have := tri_fence 3 3 (by decide) false (by decide) B t W h; rw [lit3] at this; exact this
  have q0 : Ieee.double.order 0 0 = some .eq := by decide
  have q2 : Ieee.double.order 4611686018427387904 4611686018427387904 = some .eq := by decide
  have q5 : Ieee.double.order 4617315517961601024 4617315517961601024 = some .eq := by decide
  have q4 : Ieee.double.order 13839561654909534208 13839561654909534208 = some .eq := by decide
  have q6 : Ieee.double.order 4618441417868443648 4618441417868443648 = some .eq := by decide
  have r0 : RR w.heap.size 3 45 (w.alloc (.cells #[.complex .f64 0 0, .complex .f64 0 0, .complex .f64 0 0] 45)) := ⟨_, rfl, heap_alloc_new w _⟩
  go_enter Try.func11, Try.ntmps11
  go_wp2_with fail
  refine (hB _).mono ?_
  rintro e w1 ⟨rfl, hb1⟩
  have r1 := (hb1.block w.heap.size (by simp)).trans (heap_alloc_new w _)
  have b1 := ((Below.refl w.heap.size w).alloc (Nat.le_refl _) _).trans (hb1.mono (by simp))
  have s1 : w.heap.size < w1.heap.size := by have := hb1.size; simp at this; omega
  have a0 := cell_of_row w1 w.heap.size 0 _ _ _ r1
  have a1 := cell_of_row w1 w.heap.size 1 _ _ _ r1
  have a2 := cell_of_row w1 w.heap.size 2 _ _ _ r1
  simp only [List.getElem?_toArray, List.getElem?_cons_zero, List.getElem?_cons_succ] at a0 a1 a2
  have R1 := Lib.hid r1
  clear hb1 r0 hB r1
  go_wp2_with fail
  refine (hS _).mono ?_
  rintro e w2 ⟨rfl, hb2⟩
  have r2 := (hb2.block w.heap.size s1).trans R1.out
  have b2 := b1.trans (hb2.mono b1.size)
  have s2 : w.heap.size < w2.heap.size := by have := hb2.size; omega
  clear a0 a1 a2 R1 s1 b1 hb2 hS
  have a0 := cell_of_row w2 w.heap.size 0 _ _ _ r2
  have a1 := cell_of_row w2 w.heap.size 1 _ _ _ r2
  have a2 := cell_of_row w2 w.heap.size 2 _ _ _ r2
  simp only [List.getElem?_toArray, List.getElem?_cons_zero, List.getElem?_cons_succ] at a0 a1 a2
  have R2 := Lib.hid r2
  clear r2
  go_wp2_with fail
  refine (hL _).mono ?_
  rintro e w3 ⟨rfl, hb3⟩
  have b3 := b2.trans (hb3.mono b2.size)
  clear a0 a1 a2 R2 s2 b2 hb3 hL
  have r3 : RR w3.heap.size 3 45 (w3.alloc (.cells #[.complex .f64 0 0, .complex .f64 0 0, .complex .f64 0 0] 45)) := ⟨_, rfl, heap_alloc_new w3 _⟩
  have b4 := (b3.alloc b3.size (Obj.cells #[.complex .f64 4618441417868443648 4611686018427387904, .complex .f64 0 0, .complex .f64 0 4607182418800017408] 45)).alloc (by have := b3.size; simp; omega) (Obj.cells triRow 31)
  have rt : (((w3.alloc (Obj.cells #[.complex .f64 4618441417868443648 4611686018427387904, .complex .f64 0 0, .complex .f64 0 4607182418800017408] 45)).alloc (Obj.cells triRow 31))).heap[w3.heap.size + 1]? = some (.cells triRow 31 (0, 0)) := by
    have := heap_alloc_new (w3.alloc (Obj.cells #[.complex .f64 4618441417868443648 4611686018427387904, .complex .f64 0 0, .complex .f64 0 4607182418800017408] 45)) (Obj.cells triRow 31)
    simpa using this
  have B4 := Lib.hid b4
  have RT := Lib.hid rt
  clear b3 b4 rt
  go_wp2_with fail
  refine (f1 _ _ _ RT.out).mono ?_
  rintro e w4 ⟨rfl, hb4⟩
  have RT5 := Lib.hid ((hb4.block (w3.heap.size + 1) (by simp)).trans RT.out)
  have B5 := Lib.hid (B4.out.trans (hb4.mono B4.out.size))
  clear RT B4 hb4 r3 f1
  go_wp2_with fail
  refine (f2 _ _ _ RT5.out).mono ?_
  rintro e w5 ⟨rfl, hb5⟩
  have RT6 := Lib.hid ((hb5.block (w3.heap.size + 1) (Array.getElem?_eq_some_iff.1 RT5.out).1).trans RT5.out)
  have B6 := Lib.hid (B5.out.trans (hb5.mono B5.out.size))
  clear RT5 B5 hb5 f2
  go_wp2_with fail
  refine (f3 _ _ _ RT6.out).mono ?_
  rintro e w6 ⟨rfl, hb6⟩
  have RT7 := Lib.hid ((hb6.block (w3.heap.size + 1) (Array.getElem?_eq_some_iff.1 RT6.out).1).trans RT6.out)
  have B7 := Lib.hid (B6.out.trans (hb6.mono B6.out.size))
  clear RT6 B6 hb6 f3
  go_wp2_with fail
  refine (f4 _ _ _ RT7.out).mono ?_
  rintro e w7 ⟨rfl, hb7⟩
  have B8 := Lib.hid (B7.out.trans (hb7.mono B7.out.size))
  clear RT7 B7 hb7 f4
  go_wp2
  go_ret
  exact ⟨rfl, B8.out⟩
end Go.Proofs.Ytbgllbjkmjlipaa
