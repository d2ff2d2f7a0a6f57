/- Contract: the value of a word. -/
import Derived.Test.YtbgllbjkmjlipaaN6
namespace Go.Proofs.Ytbgllbjkmjlipaa
open Go.RowKit
attribute [local go_sem] fmt64

theorem st115 (x y : Value) : Instr.storeAt 115 x y = stRow 115 x y := stRow_eq 115 x y
theorem st115_run {g : Nat} {W : World} {n : Int} {a b : Nat} (h : RR g 2 115 W) : (stRow 115 (.pointer (some ⟨g, 0, none⟩)) (.agg #[.int .i64 n, .complex .f64 a b])).run Try.prog W = .ok () (W.setRow g #[.int .i64 n, .complex .f64 a b]) :=
  stRow_run h rfl (by kernel_rfl) (by simp [Value.oneCell'])
attribute [local go_sem ↓] st115
attribute [local go_sem] st115_run
theorem LW.setRowAt {w W : World} {k : Nat} {L : List MRow} {b : Nat} (h : LW w k L W) (hne : ∀ x ∈ L, x.1 ≠ b) (hb : w.heap.size ≤ b) (cs : Array Value) : LW w k L (W.setRow b cs) :=
  ⟨fun x hx => (setRow_other W b x.1 cs (hne x hx)).trans (h.rows x hx), below_setRow h.below hb _, by simpa using h.size⟩
theorem LW.cut2 {w W : World} {k : Nat} {x y : MRow} {L : List MRow} (h : LW w k (x :: y :: L) W) : LW w k [x, y] W :=
  ⟨fun z hz => h.rows z (by rcases List.mem_cons.1 hz with rfl | hz; exact List.mem_cons_self ..; obtain rfl := List.mem_singleton.1 hz; exact List.mem_cons_of_mem _ (List.mem_cons_self ..)), h.below, h.size⟩

set_option maxRecDepth 100000 in
set_option maxHeartbeats 2000000 in
theorem get_pt (x : Nat) (hx : x < 18446744073709551616) (b : Int) (w : World) : Calls Try.prog 76 #[pt64, .int .u64 x, .int .i64 b] w fun e w' => e = .returned (zval (wd false (s32 (x % 4294967296))) (wd false (s32 (x / 4294967296)))) ∧ Below w.heap.size w w' := by
  have L0 := ((((LW.nil w).new 129 #[.int .i64 3, .int .i64 64]).new 115 #[.int .i64 0, .complex .f64 0 0]).new 137 #[.int .i64 b, .int .i64 64])
  simp only [World.size_alloc] at L0
  have LL := Lib.hid L0
  clear L0
  have ha : ∀ W, Calls Try.prog 87 #[fld 0 32, .int .u64 x] W fun e w' => e = .returned (.int .i64 (s32 (x % 4294967296))) ∧ Below W.heap.size W w' := fun W => by
    have h := bsigned_any 0 32 x W
    have e : sgnF 0 32 x = s32 (x % 4294967296) := by unfold sgnF; rw [lo_may, if_pos rfl]; exact sgn_lo x
    rw [e] at h; exact h
  have hb : ∀ W, Calls Try.prog 87 #[fld 32 32, .int .u64 x] W fun e w' => e = .returned (.int .i64 (s32 (x / 4294967296))) ∧ Below W.heap.size W w' := fun W => by
    have h := bsigned_any 32 32 x W
    have e : sgnF 32 32 x = s32 (x / 4294967296) := by unfold sgnF; rw [hi_may, if_pos rfl]; exact sgn_hi x hx
    rw [e] at h; exact h
  have o1 := ofInt_wd (s32 (x % 4294967296))
  have o2 := ofInt_wd (s32 (x / 4294967296))
  generalize s32 (x % 4294967296) = p at *
  generalize s32 (x / 4294967296) = q at *
  go_enter Try.func76, Try.ntmps76
  go_wp2_with fail
  refine (halves_any _).mono ?_
  rintro e w1 ⟨rfl, hb1⟩
  have L1 := ((LL.out.bel hb1).new 137 #[.int .i64 0, .int .i64 32]).new 137 #[.int .i64 32, .int .i64 32]
  simp only [World.size_alloc] at L1
  have hws : w.heap.size + 1 + 1 < w1.heap.size := (Array.getElem?_eq_some_iff.1 ((LL.out.bel hb1).row (List.mem_cons_self ..))).1
  have HR : RR (w.heap.size + 1) 2 115 _ := ⟨_, rfl, L1.row (b := w.heap.size + 1) (t := 115) (cs := #[.int .i64 0, .complex .f64 0 0]) (List.mem_cons_of_mem _ (List.mem_cons_of_mem _ (List.mem_cons_of_mem _ (List.mem_cons_self ..))))⟩
  have L2 := Lib.hid L1.cut2
  have HR2 := Lib.hid HR
  clear LL hb1 L1 HR
  go_wp2_with fail
  generalize hW : (w1.alloc (.cells #[.int .i64 0, .int .i64 32] 137)).alloc (.cells #[.int .i64 32, .int .i64 32] 137) = W2 at *
  clear hW
  have HC : Hid (∀ W, LW w 0 [(w1.heap.size + 1, 137, #[.int .i64 32, .int .i64 32]), (w1.heap.size, 137, #[.int .i64 0, .int .i64 32])] W ∧ RR (w.heap.size + 1) 2 115 W → (LW w 0 [(w1.heap.size + 1, 137, #[.int .i64 32, .int .i64 32]), (w1.heap.size, 137, #[.int .i64 0, .int .i64 32])] W ∧ RR (w.heap.size + 1) 2 115 W) ∧ RR (w.heap.size + 1) 2 115 W ∧ W.cell? ⟨w1.heap.size, 0, none⟩ = some (.int .i64 0) ∧ W.cell? ⟨w1.heap.size, 1, none⟩ = some (.int .i64 32) ∧ W.cell? ⟨w1.heap.size + 1, 0, none⟩ = some (.int .i64 32) ∧ W.cell? ⟨w1.heap.size + 1, 1, none⟩ = some (.int .i64 32)) := Lib.hid fun W h => ⟨h, h.2, h.1.cell (i := 0) (b := w1.heap.size) (List.mem_cons_of_mem _ (List.mem_cons_self ..)) rfl, h.1.cell (i := 1) (b := w1.heap.size) (List.mem_cons_of_mem _ (List.mem_cons_self ..)) rfl, h.1.cell (i := 0) (b := w1.heap.size + 1) (List.mem_cons_self ..) rfl, h.1.cell (i := 1) (b := w1.heap.size + 1) (List.mem_cons_self ..) rfl⟩
  have HBL : Hid (∀ W W', (LW w 0 [(w1.heap.size + 1, 137, #[.int .i64 32, .int .i64 32]), (w1.heap.size, 137, #[.int .i64 0, .int .i64 32])] W ∧ RR (w.heap.size + 1) 2 115 W) → Below W.heap.size W W' → LW w 0 [(w1.heap.size + 1, 137, #[.int .i64 32, .int .i64 32]), (w1.heap.size, 137, #[.int .i64 0, .int .i64 32])] W' ∧ RR (w.heap.size + 1) 2 115 W') := Lib.hid fun W W' h hb => ⟨h.1.bel hb, h.2.bel hb⟩
  have HS : Hid (∀ W cs, cs.size = 2 → (LW w 0 [(w1.heap.size + 1, 137, #[.int .i64 32, .int .i64 32]), (w1.heap.size, 137, #[.int .i64 0, .int .i64 32])] W ∧ RR (w.heap.size + 1) 2 115 W) → LW w 0 [(w1.heap.size + 1, 137, #[.int .i64 32, .int .i64 32]), (w1.heap.size, 137, #[.int .i64 0, .int .i64 32])] (W.setRow (w.heap.size + 1) cs) ∧ RR (w.heap.size + 1) 2 115 (W.setRow (w.heap.size + 1) cs)) := Lib.hid fun W cs hcs h => ⟨h.1.setRowAt (by intro r hr; simp only [List.mem_cons, List.not_mem_nil, or_false] at hr; rcases hr with rfl | rfl <;> (dsimp only; omega)) (by omega) cs, h.2.setRow cs hcs⟩
  have I0 := (And.intro L2.out.drew (show RR (w.heap.size + 1) 2 115 W2.drew from HR2.out))
  clear L2 HR2
  go_region_held3 (fun W => (LW w 0 [(w1.heap.size + 1, 137, #[.int .i64 32, .int .i64 32]), (w1.heap.size, 137, #[.int .i64 0, .int .i64 32])] W ∧ RR (w.heap.size + 1) 2 115 W) ∧ RR (w.heap.size + 1) 2 115 W ∧ W.cell? ⟨w1.heap.size, 0, none⟩ = some (.int .i64 0) ∧ W.cell? ⟨w1.heap.size, 1, none⟩ = some (.int .i64 32) ∧ W.cell? ⟨w1.heap.size + 1, 0, none⟩ = some (.int .i64 32) ∧ W.cell? ⟨w1.heap.size + 1, 1, none⟩ = some (.int .i64 32))
    (first | (with_reducible exact HC.out _ I0) | (with_reducible assumption) | (with_reducible exact HC.out _ (HBL.out _ _ (And.left (by assumption)) hbw)) | (with_reducible exact HC.out _ (HS.out _ _ rfl (And.left (by assumption)))))
    (first | (go_at_call 87; (first | (with_reducible refine (ha _).mono ?_) | (with_reducible refine (hb _).mono ?_)); rintro e w_ ⟨rfl, hbw⟩))
  rename_i hK
  have hS := RR.bel (RR.bel I0.2 (by assumption)) hbw
  have HBf := Lib.hid hK.1.1.below
  have HRf := Lib.hid (hS.setRow_row #[.int .i64 0, .complex .f64 (wd false p) (wd false q)])
  clear hK hS HC HBL HS I0 ha hb
  go_wp2
  exact bodyPost_ret (results_cell_row rfl _ _ (w.heap.size + 1) 115 #[.int .i64 0, .complex .f64 (wd false p) (wd false q)] (0, 0) _ rfl HRf.out Try.underlying115 rfl (by kernel_rfl)) rfl ⟨rfl, HBf.out⟩
end Go.Proofs.Ytbgllbjkmjlipaa
