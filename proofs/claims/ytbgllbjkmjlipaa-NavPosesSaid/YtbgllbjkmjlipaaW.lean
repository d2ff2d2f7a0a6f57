/- What a law holds between its regions; Body and World of every pose. -/
import Derived.Test.YtbgllbjkmjlipaaV
import Derived.Test.YtbgllbjkmjlipaaFrame
namespace Go.Proofs.Ytbgllbjkmjlipaa
open Go.RowKit
attribute [local go_sem] fmt64

theorem RR.bel {r k : Nat} {t : TypeId} {W W' : World} (h : RR r k t W) (hb : Below W.heap.size W W') : RR r k t W' := by
  obtain ⟨cs, h1, h2⟩ := h
  exact ⟨cs, h1, (hb.block r (Array.getElem?_eq_some_iff.1 h2).1).trans h2⟩
theorem RR.new (W : World) (cs : Array Value) (t : TypeId) : RR W.heap.size cs.size t (W.alloc (.cells cs t)) := ⟨cs, rfl, heap_alloc_new W _⟩
theorem rr39 (W : World) (a b : Value) : RR W.heap.size 2 39 (W.alloc (.cells #[a, b] 39)) := RR.new W #[a, b] 39
theorem rr48 (W : World) (a b c d e f : Value) : RR W.heap.size 6 48 (W.alloc (.cells #[a, b, c, d, e, f] 48)) := RR.new W #[a, b, c, d, e, f] 48
theorem rr45 (W : World) (a b c : Value) : RR W.heap.size 3 45 (W.alloc (.cells #[a, b, c] 45)) := RR.new W #[a, b, c] 45

theorem st39 (x y : Value) : Instr.storeAt 39 x y = stRow 39 x y := stRow_eq 39 x y
theorem st39_run {g : Nat} {W : World} {a b : Int} (h : RR g 2 39 W) : (stRow 39 (.pointer (some ⟨g, 0, none⟩)) (.agg #[.int .i64 a, .int .i64 b])).run Try.prog W = .ok () (W.setRow g #[.int .i64 a, .int .i64 b]) :=
  stRow_run h rfl (by kernel_rfl) (by simp [Value.oneCell'])

/-- Rows of memory: block, type, cells. -/
abbrev MRow := Nat × TypeId × Array Value
/-- What is held: the rows, what lay ahead, and that so many blocks have been laid. -/
structure LW (w : World) (k : Nat) (L : List MRow) (W : World) : Prop where
  rows : ∀ x ∈ L, W.heap[x.1]? = some (.cells x.2.2 x.2.1 (0, 0))
  below : Below w.heap.size w W
  size : w.heap.size + k ≤ W.heap.size
section
variable {w W W' : World} {k : Nat} {L : List MRow}
theorem LW.bel (h : LW w k L W) (hb : Below W.heap.size W W') : LW w k L W' :=
  ⟨fun x hx => (hb.block x.1 (Array.getElem?_eq_some_iff.1 (h.rows x hx)).1).trans (h.rows x hx), h.below.trans (hb.mono h.below.size), by have := hb.size; have := h.size; omega⟩
theorem LW.alloc (h : LW w k L W) (o : Obj) : LW w k L (W.alloc o) := h.bel ((Below.refl _ _).alloc (Nat.le_refl _) o)
theorem LW.drew (h : LW w k L W) : LW w k L W.drew := ⟨h.rows, h.below.drew, h.size⟩
theorem LW.drewN (h : LW w k L W) (n : Nat) : LW w k L (W.drewN n) := ⟨h.rows, h.below.trans ⟨rfl, rfl, rfl, Nat.le_refl _, fun _ _ => rfl⟩, h.size⟩
theorem LW.more (h : LW w k L W) (hk : k ≤ k + 1 ∧ w.heap.size + (k + 1) ≤ W.heap.size) : LW w (k + 1) L W := ⟨h.rows, h.below, hk.2⟩
theorem LW.setRow (h : LW w k L W) {g n : Nat} {t : TypeId} (hr : RR g n t W) (ht : ∀ x ∈ L, x.2.1 ≠ t) (hg : w.heap.size ≤ g) (cs : Array Value) : LW w k L (W.setRow g cs) := by
  obtain ⟨c, h1, h2⟩ := hr
  refine ⟨fun x hx => ?_, below_setRow h.below hg _, by simpa using h.size⟩
  have hx1 := h.rows x hx
  rw [setRow_other]
  · exact hx1
  · intro e
    rw [e] at hx1
    rw [hx1] at h2
    simp at h2
    exact ht x hx h2.2
theorem LW.row (h : LW w k L W) {b : Nat} {t : TypeId} {cs : Array Value} (hx : (b, t, cs) ∈ L) : W.heap[b]? = some (.cells cs t (0, 0)) := h.rows _ hx
theorem LW.cell (h : LW w k L W) {b i : Nat} {t : TypeId} {cs : Array Value} {v : Value} (hx : (b, t, cs) ∈ L) (hv : cs[i]? = some v) : W.cell? ⟨b, i, none⟩ = some v := by
  rw [cell_of_row _ _ _ _ _ _ (h.rows _ hx)]; exact hv
theorem LW.add (h : LW w k L W) {b : Nat} {t : TypeId} {cs : Array Value} (hr : W.heap[b]? = some (.cells cs t (0, 0))) : LW w k ((b, t, cs) :: L) W :=
  ⟨fun x hx => (List.mem_cons.1 hx).elim (fun e => by rw [e]; exact hr) (fun hx => h.rows x hx), h.below, h.size⟩
theorem LW.new (h : LW w k L W) (t : TypeId) (cs : Array Value) : LW w k ((W.heap.size, t, cs) :: L) (W.alloc (.cells cs t)) := (h.alloc _).add (heap_alloc_new W _)
theorem LW.nil (w : World) : LW w 0 [] w := ⟨fun _ h => (by cases h), Below.refl _ _, Nat.le_refl _⟩
end

/-! What is held in a region: what lay at its beginning. -/
section
variable {W0 W W' : World}
theorem bt (h : Below W0.heap.size W0 W) (hb : Below W.heap.size W W') : Below W0.heap.size W0 W' := h.trans (hb.mono h.size)
theorem bt_alloc (h : Below W0.heap.size W0 W) (o : Obj) : Below W0.heap.size W0 (W.alloc o) := h.alloc h.size o
theorem bt_allocd (h : Below W0.heap.size W0 W.drew) (o : Obj) : Below W0.heap.size W0 (W.alloc o).drew := (bt_alloc (W := W.drew) h o)
theorem bt_set (h : Below W0.heap.size W0 W) {g : Nat} (hg : W0.heap.size ≤ g) (cs : Array Value) : Below W0.heap.size W0 (W.setRow g cs) := below_setRow h hg cs
theorem bt_re {c c' : Array Value} {t : TypeId} (h : Below W0.heap.size W0 (W.alloc (.cells c t))) (hg : W0.heap.size ≤ W.heap.size) : Below W0.heap.size W0 (W.alloc (.cells c' t)) := by
  have := bt_set h hg c'
  rwa [World.setRow_alloc_new] at this
theorem bt_ge (h : Below W0.heap.size W0 W) (hb : Below W.heap.size W W') : W0.heap.size ≤ W'.heap.size := (bt h hb).size
end
theorem rr39d (W : World) (a b : Value) : RR W.heap.size 2 39 (W.alloc (.cells #[a, b] 39)).drew := rr39 W a b
theorem rr48d (W : World) (a b c d e f : Value) : RR W.heap.size 6 48 (W.alloc (.cells #[a, b, c, d, e, f] 48)).drew := rr48 W a b c d e f
theorem rr45d (W : World) (a b c : Value) : RR W.heap.size 3 45 (W.alloc (.cells #[a, b, c] 45)).drew := rr45 W a b c

/-- An answer's error: the pose's check, then the point, then the answer itself. -/
def gE (ck : Int) (r : Bool) (X Y : Int) : Int := if ck = 0 then (if r = true then (if rightB X Y then 0 else 10) else 10) else ck
def gV (ck : Int) (r : Bool) (X Y v : Int) : Int := if gE ck r X Y = 0 then v else 0
theorem ck_zero {R I S J N M : Int} (h : ckF R I S J N M = 0) : rightB R I = true ∧ rightB S J = true ∧ noseB N M = true := by
  unfold ckF at h
  split at h
  · rename_i h1
    refine ⟨h1.1, h1.2, ?_⟩
    by_cases c : noseB N M = true
    · exact c
    · rw [if_neg c] at h; cases h
  · cases h
theorem gE_ck {ck : Int} {r : Bool} {X Y : Int} (h : ck ≠ 0) : gE ck r X Y = ck := if_neg h
theorem gV_ck {ck : Int} {r : Bool} {X Y v : Int} (h : ck ≠ 0) : gV ck r X Y v = 0 := by unfold gV; rw [gE_ck h, if_neg h]
theorem gE_r {X Y : Int} : gE 0 false X Y = 10 := by simp [gE]
theorem gV_r {X Y v : Int} : gV 0 false X Y v = 0 := by simp [gV, gE]
theorem gE_y {X Y : Int} (h : rightB X Y = true) : gE 0 true X Y = 0 := by simp [gE, h]
theorem gV_y {X Y v : Int} (h : rightB X Y = true) : gV 0 true X Y v = v := by simp [gV, gE, h]
theorem gE_n {X Y : Int} (h : rightB X Y = false) : gE 0 true X Y = 10 := by simp [gE, h]
theorem gV_n {X Y v : Int} (h : rightB X Y = false) : gV 0 true X Y v = 0 := by simp [gV, gE, h]
theorem told_gen (X Y : Int) : toldV X Y = pairC (wd false (gV 0 true X Y X)) (wd false (gV 0 true X Y Y)) (gE 0 true X Y) := by
  unfold toldV
  cases h : rightB X Y with
  | true => rw [gE_y h, gV_y h, gV_y h]; rfl
  | false => rw [gE_n h, gV_n h, gV_n h, lit0]; rfl
abbrev bX (R I N M a b : Int) : Int := (a - R) * N - (b - I) * -M
abbrev bY (R I N M a b : Int) : Int := (a - R) * -M + (b - I) * N
abbrev wX (R _I N M a b : Int) : Int := R + (a * N - b * M)
abbrev wY (_R I N M a b : Int) : Int := I + (a * M + b * N)

theorem body_gen {x1 y1 x2 y2 x3 y3 x y : Nat} {R I S J N M a b : Int} (h1 : Num x1 y1 R I) (h2 : Num x2 y2 S J) (h3 : Num x3 y3 N M) (h4 : Num x y a b) (w : World) :
    Calls Try.prog 21 #[ps x1 y1 x2 y2 x3 y3, cx x y] w fun e w' =>
      e = .returned (pairC (wd false (gV (ckF R I S J N M) (rightB a b) (bX R I N M a b) (bY R I N M a b) (bX R I N M a b))) (wd false (gV (ckF R I S J N M) (rightB a b) (bX R I N M a b) (bY R I N M a b) (bY R I N M a b))) (gE (ckF R I S J N M) (rightB a b) (bX R I N M a b) (bY R I N M a b))) ∧ Below w.heap.size w w' := by
  have hc := check_any _ _ _ _ _ _ _ _ _ _ _ _ h1 h2 h3
  by_cases c : ckF R I S J N M = 0
  · rw [c] at hc ⊢
    obtain ⟨g1, g2, g3⟩ := ck_zero c
    cases r : rightB a b with
    | false =>
      rw [gE_r, gV_r, gV_r, lit0]
      exact body_bad _ _ _ _ _ _ _ _ hc (by rw [num_may h4, r]) w
    | true =>
      obtain ⟨rfl, rfl⟩ := num_right h1 g1
      obtain ⟨rfl, rfl⟩ := num_right h2 g2
      obtain ⟨rfl, rfl⟩ := num_right h3 (nose_bd g3)
      obtain ⟨rfl, rfl⟩ := num_right h4 r
      rw [← told_gen]
      exact body_ok R I S J N M a b g1 g2 g3 r w
  · rw [gE_ck c, gV_ck c, gV_ck c, lit0]
    exact body_no _ _ _ _ _ _ _ _ _ hc c w
theorem world_gen {x1 y1 x2 y2 x3 y3 x y : Nat} {R I S J N M a b : Int} (h1 : Num x1 y1 R I) (h2 : Num x2 y2 S J) (h3 : Num x3 y3 N M) (h4 : Num x y a b) (w : World) :
    Calls Try.prog 22 #[ps x1 y1 x2 y2 x3 y3, cx x y] w fun e w' =>
      e = .returned (pairC (wd false (gV (ckF R I S J N M) (rightB a b) (wX R I N M a b) (wY R I N M a b) (wX R I N M a b))) (wd false (gV (ckF R I S J N M) (rightB a b) (wX R I N M a b) (wY R I N M a b) (wY R I N M a b))) (gE (ckF R I S J N M) (rightB a b) (wX R I N M a b) (wY R I N M a b))) ∧ Below w.heap.size w w' := by
  have hc := check_any _ _ _ _ _ _ _ _ _ _ _ _ h1 h2 h3
  by_cases c : ckF R I S J N M = 0
  · rw [c] at hc ⊢
    obtain ⟨g1, g2, g3⟩ := ck_zero c
    cases r : rightB a b with
    | false =>
      rw [gE_r, gV_r, gV_r, lit0]
      exact world_bad _ _ _ _ _ _ _ _ hc (by rw [num_may h4, r]) w
    | true =>
      obtain ⟨rfl, rfl⟩ := num_right h1 g1
      obtain ⟨rfl, rfl⟩ := num_right h2 g2
      obtain ⟨rfl, rfl⟩ := num_right h3 (nose_bd g3)
      obtain ⟨rfl, rfl⟩ := num_right h4 r
      rw [← told_gen]
      exact world_ok R I S J N M a b g1 g2 g3 r w
  · rw [gE_ck c, gV_ck c, gV_ck c, lit0]
    exact world_no _ _ _ _ _ _ _ _ _ hc c w
end Go.Proofs.Ytbgllbjkmjlipaa
