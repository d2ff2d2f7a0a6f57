/- Contract: plainPose. -/
import Derived.Test.YtbgllbjkmjlipaaL
import Derived.Laws.Tables
import Derived.Laws.CopyOwn
namespace Go.Proofs.Ytbgllbjkmjlipaa
open Go.RowKit
attribute [local go_sem] fmt64

/-- A store of a whole row, kept shut. -/
@[irreducible] def stRow (t : TypeId) (x y : Value) : Sem Unit := Instr.storeAt t x y
theorem stRow_eq (t : TypeId) (x y : Value) : Instr.storeAt t x y = stRow t x y := by unfold stRow; rfl
theorem stRow_run {g k : Nat} {t ty : TypeId} {cells : Array Value} {W : World} (h : RR g k t W) (hk : cells.size = k) (hi : (Try.prog.info? ty).map (·.size) = some cells.size) (h1 : cells.all (·.oneCell') = true) :
    (stRow ty (.pointer (some ⟨g, 0, none⟩)) (.agg cells)).run Try.prog W = .ok () (W.setRow g cells) := by
  obtain ⟨cs, h2, h3⟩ := h
  rw [← stRow_eq]
  simp only [Instr.storeAt, Instr.sureAddr, Sem.run_bind, Sem.run_pure, Result.andThen_ok]
  exact run_storeVar_row W g t ty cs cells h3 hi (by omega) h1
theorem RR.setRow {r k : Nat} {t : TypeId} {W : World} (h : RR r k t W) (cs : Array Value) (hk : cs.size = k) : RR r k t (W.setRow r cs) := by
  obtain ⟨c, h1, h2⟩ := h
  exact ⟨cs, hk, setRow_heap W r c cs t (0, 0) h2⟩
theorem RR.setRow_row {r k : Nat} {t : TypeId} {W : World} (h : RR r k t W) (cs : Array Value) : (W.setRow r cs).heap[r]? = some (.cells cs t (0, 0)) := by
  obtain ⟨c, h1, h2⟩ := h
  exact setRow_heap W r c cs t (0, 0) h2
theorem st48 (x y : Value) : Instr.storeAt 48 x y = stRow 48 x y := stRow_eq 48 x y
theorem st48_run {g : Nat} {W : World} {a b c d e f : Int} (h : RR g 6 48 W) : (stRow 48 (.pointer (some ⟨g, 0, none⟩)) (.agg #[.int .i64 a, .int .i64 b, .int .i64 c, .int .i64 d, .int .i64 e, .int .i64 f])).run Try.prog W = .ok () (W.setRow g #[.int .i64 a, .int .i64 b, .int .i64 c, .int .i64 d, .int .i64 e, .int .i64 f]) :=
  stRow_run h rfl (by kernel_rfl) (by simp [Value.oneCell'])
attribute [local go_sem ↓] st48
attribute [local go_sem] st48_run

abbrev Nine (w : World) (re0 im0 k0 re1 im1 k1 re2 im2 k2 : Int) (W : World) : Prop :=
  W.cell? ⟨w.heap.size, 0, none⟩ = some (.int .i64 re0) ∧ W.cell? ⟨w.heap.size, 1, none⟩ = some (.int .i64 im0) ∧ W.cell? ⟨w.heap.size, 2, none⟩ = some (.int .i64 k0) ∧ W.cell? ⟨w.heap.size, 3, none⟩ = some (.int .i64 re1) ∧ W.cell? ⟨w.heap.size, 4, none⟩ = some (.int .i64 im1) ∧ W.cell? ⟨w.heap.size, 5, none⟩ = some (.int .i64 k1) ∧ W.cell? ⟨w.heap.size, 6, none⟩ = some (.int .i64 re2) ∧ W.cell? ⟨w.heap.size, 7, none⟩ = some (.int .i64 im2) ∧ W.cell? ⟨w.heap.size, 8, none⟩ = some (.int .i64 k2) ∧ RR (w.heap.size + 1) 6 48 W ∧ Below w.heap.size w W ∧ w.heap.size + 1 < W.heap.size
theorem nine_below {w W W' : World} {re0 im0 k0 re1 im1 k1 re2 im2 k2 : Int} (h : Nine w re0 im0 k0 re1 im1 k1 re2 im2 k2 W) (hb : Below W.heap.size W W') : Nine w re0 im0 k0 re1 im1 k1 re2 im2 k2 W' := by
  obtain ⟨h0, h1, h2, h3, h4, h5, h6, h7, h8, hr, hbb, hs⟩ := h
  have hsz := hb.size
  exact ⟨(hb.cell (p := ⟨w.heap.size, 0, none⟩) (show w.heap.size < W.heap.size by omega)).trans h0, (hb.cell (p := ⟨w.heap.size, 1, none⟩) (show w.heap.size < W.heap.size by omega)).trans h1, (hb.cell (p := ⟨w.heap.size, 2, none⟩) (show w.heap.size < W.heap.size by omega)).trans h2, (hb.cell (p := ⟨w.heap.size, 3, none⟩) (show w.heap.size < W.heap.size by omega)).trans h3, (hb.cell (p := ⟨w.heap.size, 4, none⟩) (show w.heap.size < W.heap.size by omega)).trans h4, (hb.cell (p := ⟨w.heap.size, 5, none⟩) (show w.heap.size < W.heap.size by omega)).trans h5, (hb.cell (p := ⟨w.heap.size, 6, none⟩) (show w.heap.size < W.heap.size by omega)).trans h6, (hb.cell (p := ⟨w.heap.size, 7, none⟩) (show w.heap.size < W.heap.size by omega)).trans h7, (hb.cell (p := ⟨w.heap.size, 8, none⟩) (show w.heap.size < W.heap.size by omega)).trans h8, hr.below hb hs, hbb.trans (hb.mono (by omega)), by omega⟩
theorem nine_set {w W : World} {re0 im0 k0 re1 im1 k1 re2 im2 k2 : Int} (h : Nine w re0 im0 k0 re1 im1 k1 re2 im2 k2 W) (v0 v1 v2 v3 v4 v5 : Value) : Nine w re0 im0 k0 re1 im1 k1 re2 im2 k2 (W.setRow (w.heap.size + 1) #[v0, v1, v2, v3, v4, v5]) := by
  obtain ⟨h0, h1, h2, h3, h4, h5, h6, h7, h8, hr, hbb, hs⟩ := h
  exact ⟨(cell_setRow_other W (w.heap.size + 1) _ _ (by simp)).trans h0, (cell_setRow_other W (w.heap.size + 1) _ _ (by simp)).trans h1, (cell_setRow_other W (w.heap.size + 1) _ _ (by simp)).trans h2, (cell_setRow_other W (w.heap.size + 1) _ _ (by simp)).trans h3, (cell_setRow_other W (w.heap.size + 1) _ _ (by simp)).trans h4, (cell_setRow_other W (w.heap.size + 1) _ _ (by simp)).trans h5, (cell_setRow_other W (w.heap.size + 1) _ _ (by simp)).trans h6, (cell_setRow_other W (w.heap.size + 1) _ _ (by simp)).trans h7, (cell_setRow_other W (w.heap.size + 1) _ _ (by simp)).trans h8, hr.setRow _ rfl, below_setRow hbb (by omega) _, by simpa using hs⟩
set_option maxRecDepth 100000 in
set_option maxHeartbeats 2000000 in
theorem plainPose_any (re0 im0 k0 re1 im1 k1 re2 im2 k2 : Int) (w : World) : Calls Try.prog 20 #[.agg #[.int .i64 re0, .int .i64 im0, .int .i64 k0, .int .i64 re1, .int .i64 im1, .int .i64 k1, .int .i64 re2, .int .i64 im2, .int .i64 k2]] w fun e w' => e = .returned (pz (plR re0 im0 k0) (plI re0 im0 k0) (plR re1 im1 k1) (plI re1 im1 k1) (plR re2 im2 k2) (plI re2 im2 k2)) ∧ Below w.heap.size w w' := by
  have HK0 : Nine w re0 im0 k0 re1 im1 k1 re2 im2 k2 ((w.alloc (.cells #[.int .i64 re0, .int .i64 im0, .int .i64 k0, .int .i64 re1, .int .i64 im1, .int .i64 k1, .int .i64 re2, .int .i64 im2, .int .i64 k2] 43)).alloc (.cells #[.int .i64 0, .int .i64 0, .int .i64 0, .int .i64 0, .int .i64 0, .int .i64 0] 48)).drew := by
    have hc : ((w.alloc (.cells #[.int .i64 re0, .int .i64 im0, .int .i64 k0, .int .i64 re1, .int .i64 im1, .int .i64 k1, .int .i64 re2, .int .i64 im2, .int .i64 k2] 43)).alloc (.cells #[.int .i64 0, .int .i64 0, .int .i64 0, .int .i64 0, .int .i64 0, .int .i64 0] 48)).drew.heap[w.heap.size]? = some (.cells #[.int .i64 re0, .int .i64 im0, .int .i64 k0, .int .i64 re1, .int .i64 im1, .int .i64 k1, .int .i64 re2, .int .i64 im2, .int .i64 k2] 43 (0, 0)) := by
      show ((w.alloc _).alloc _).heap[w.heap.size]? = _
      rw [Below.heap_alloc _ _ _ (by simp)]; exact heap_alloc_new w _
    refine ⟨by rw [cell_of_row _ _ _ _ _ _ hc]; rfl, by rw [cell_of_row _ _ _ _ _ _ hc]; rfl, by rw [cell_of_row _ _ _ _ _ _ hc]; rfl, by rw [cell_of_row _ _ _ _ _ _ hc]; rfl, by rw [cell_of_row _ _ _ _ _ _ hc]; rfl, by rw [cell_of_row _ _ _ _ _ _ hc]; rfl, by rw [cell_of_row _ _ _ _ _ _ hc]; rfl, by rw [cell_of_row _ _ _ _ _ _ hc]; rfl, by rw [cell_of_row _ _ _ _ _ _ hc]; rfl, ⟨#[.int .i64 0, .int .i64 0, .int .i64 0, .int .i64 0, .int .i64 0, .int .i64 0], rfl, ?_⟩, (below2 _ _ _).drew, (by show w.heap.size + 1 < ((w.alloc _).alloc _).heap.size; simp)⟩
    exact two_allocs _ _ _ _
  go_enter Try.func20, Try.ntmps20
  go_wp2
  go_region_held3 (fun W => W.cell? ⟨w.heap.size, 0, none⟩ = some (.int .i64 re0) ∧ W.cell? ⟨w.heap.size, 1, none⟩ = some (.int .i64 im0) ∧ W.cell? ⟨w.heap.size, 2, none⟩ = some (.int .i64 k0) ∧ W.cell? ⟨w.heap.size, 3, none⟩ = some (.int .i64 re1) ∧ W.cell? ⟨w.heap.size, 4, none⟩ = some (.int .i64 im1) ∧ W.cell? ⟨w.heap.size, 5, none⟩ = some (.int .i64 k1) ∧ W.cell? ⟨w.heap.size, 6, none⟩ = some (.int .i64 re2) ∧ W.cell? ⟨w.heap.size, 7, none⟩ = some (.int .i64 im2) ∧ W.cell? ⟨w.heap.size, 8, none⟩ = some (.int .i64 k2) ∧ RR (w.heap.size + 1) 6 48 W ∧ Below w.heap.size w W ∧ w.heap.size + 1 < W.heap.size)
    (first | (with_reducible exact nine_below (by assumption) hbw) | (with_reducible exact HK0) | (with_reducible exact nine_set (by assumption) _ _ _ _ _ _))
    (first | (go_at_call 18; refine (plainN_any _ _ _ _).mono ?_; rintro e w1 ⟨rfl, hbw⟩))
  rename_i wa hba wb hbb hK
  have H1 := nine_below (nine_below (nine_below HK0 hba) hbb) hbw
  have R1 : RR (w.heap.size + 1) 6 48 _ := H1.2.2.2.2.2.2.2.2.2.1
  go_wp2
  refine bodyPost_ret (results_cell_row rfl _ _ (w.heap.size + 1) 48 #[.int .i64 (plR re0 im0 k0), .int .i64 (plI re0 im0 k0), .int .i64 (plR re1 im1 k1), .int .i64 (plI re1 im1 k1), .int .i64 (plR re2 im2 k2), .int .i64 (plI re2 im2 k2)] (0, 0) _ rfl (R1.setRow_row _) Try.underlying48 rfl (by kernel_rfl)) rfl
    ⟨rfl, hK.2.2.2.2.2.2.2.2.2.2.1⟩
end Go.Proofs.Ytbgllbjkmjlipaa
