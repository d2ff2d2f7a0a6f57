/- Contracts: pose, plainPose. -/
import Derived.Test.YtbgllbjkmjlipaaG
namespace Go.Proofs.Ytbgllbjkmjlipaa
open Go.RowKit
attribute [local go_sem] fmt64
@[local go_sem] theorem run_store_complex (P : Program) (w : World) (a : Addr) (m : Mode) (k : FloatKind) (x y : Nat) : (store a (.complex k x y) m).run P w = stored P w a (.complex k x y) m := run_store P w a _ m rfl

/-- What cell i of block r holds. -/
def gcell (r : Nat) (W : World) (i : Nat) : Value := (W.cell? ⟨r, i, none⟩).getD undef
theorem gcell_mk {r i : Nat} {W : World} {u : Value} (h : W.cell? ⟨r, i, none⟩ = some u) : W.cell? ⟨r, i, none⟩ = some (gcell r W i) := by unfold gcell; rw [h]; rfl
/-- Block r is a row of k cells. -/
def RR (r k : Nat) (t : TypeId) (W : World) : Prop := ∃ cs, cs.size = k ∧ W.heap[r]? = some (.cells cs t (0, 0))
theorem RR.cell {r k : Nat} {t : TypeId} {W : World} (h : RR r k t W) {i : Nat} (hi : i < k) : W.cell? ⟨r, i, none⟩ = some (gcell r W i) := by
  obtain ⟨cs, h1, h2⟩ := h
  refine gcell_mk (u := cs[i]'(by omega)) ?_
  rw [cell_of_row W r i cs t (0, 0) h2]
  exact Array.getElem?_eq_getElem (by omega)
theorem RR.frozen {r k : Nat} {t : TypeId} {W : World} (h : RR r k t W) (i : Nat) : W.frozen? ⟨r, i, none⟩ = false := by
  obtain ⟨cs, h1, h2⟩ := h
  exact frozen_of_row W r i _ t h2
theorem RR.below {r k B : Nat} {t : TypeId} {W W' : World} (h : RR r k t W) (hb : Below B W W') (hr : r < B) : RR r k t W' := by
  obtain ⟨cs, h1, h2⟩ := h
  exact ⟨cs, h1, (hb.block r hr).trans h2⟩
theorem RR.set {r k : Nat} {t : TypeId} {W : World} (h : RR r k t W) (i : Nat) (v : Value) : RR r k t (W.setCell ⟨r, i, none⟩ v) := by
  obtain ⟨cs, h1, h2⟩ := h
  exact ⟨cs.setIfInBounds i v, by simpa using h1, heap_setCell_same W r i cs t v h2⟩
theorem RR.row {r : Nat} {t : TypeId} {W : World} {vs : Array Value} (h : RR r vs.size t W) (hc : ∀ i, i < vs.size → W.cell? ⟨r, i, none⟩ = vs[i]?) : W.heap[r]? = some (.cells vs t (0, 0)) := by
  obtain ⟨cs, h1, h2⟩ := h
  rw [h2]
  congr 2
  apply Array.ext_getElem?
  intro i
  by_cases c : i < vs.size
  · rw [← hc i c, cell_of_row W r i cs t (0, 0) h2]
  · rw [Array.getElem?_eq_none (by omega), Array.getElem?_eq_none (by omega)]

abbrev Hold_pose (w : World) (re0 im0 k0 re1 im1 k1 re2 im2 k2 : Int) (W : World) : Prop :=
  W.cell? ⟨w.heap.size, 0, none⟩ = some (.int .i64 re0) ∧ W.cell? ⟨w.heap.size, 1, none⟩ = some (.int .i64 im0) ∧ W.cell? ⟨w.heap.size, 2, none⟩ = some (.int .i64 k0) ∧ W.cell? ⟨w.heap.size, 3, none⟩ = some (.int .i64 re1) ∧ W.cell? ⟨w.heap.size, 4, none⟩ = some (.int .i64 im1) ∧ W.cell? ⟨w.heap.size, 5, none⟩ = some (.int .i64 k1) ∧ W.cell? ⟨w.heap.size, 6, none⟩ = some (.int .i64 re2) ∧ W.cell? ⟨w.heap.size, 7, none⟩ = some (.int .i64 im2) ∧ W.cell? ⟨w.heap.size, 8, none⟩ = some (.int .i64 k2) ∧ RR (w.heap.size + 1) 3 45 W ∧ W.cell? ⟨w.heap.size + 1, 0, none⟩ = some (gcell (w.heap.size + 1) W 0) ∧ W.cell? ⟨w.heap.size + 1, 1, none⟩ = some (gcell (w.heap.size + 1) W 1) ∧ W.cell? ⟨w.heap.size + 1, 2, none⟩ = some (gcell (w.heap.size + 1) W 2) ∧ W.frozen? ⟨w.heap.size + 1, 0, none⟩ = false ∧ W.frozen? ⟨w.heap.size + 1, 1, none⟩ = false ∧ W.frozen? ⟨w.heap.size + 1, 2, none⟩ = false ∧ Below w.heap.size w W ∧ w.heap.size + 1 < W.heap.size
theorem pose_mk {w W : World} {re0 im0 k0 re1 im1 k1 re2 im2 k2 : Int} (hc : W.heap[w.heap.size]? = some (.cells #[.int .i64 re0, .int .i64 im0, .int .i64 k0, .int .i64 re1, .int .i64 im1, .int .i64 k1, .int .i64 re2, .int .i64 im2, .int .i64 k2] 43 (0, 0))) (hr : RR (w.heap.size + 1) 3 45 W) (hb : Below w.heap.size w W) (hs : w.heap.size + 1 < W.heap.size) : Hold_pose w re0 im0 k0 re1 im1 k1 re2 im2 k2 W :=
  ⟨by rw [cell_of_row _ _ _ _ _ _ hc]; rfl, by rw [cell_of_row _ _ _ _ _ _ hc]; rfl, by rw [cell_of_row _ _ _ _ _ _ hc]; rfl, by rw [cell_of_row _ _ _ _ _ _ hc]; rfl, by rw [cell_of_row _ _ _ _ _ _ hc]; rfl, by rw [cell_of_row _ _ _ _ _ _ hc]; rfl, by rw [cell_of_row _ _ _ _ _ _ hc]; rfl, by rw [cell_of_row _ _ _ _ _ _ hc]; rfl, by rw [cell_of_row _ _ _ _ _ _ hc]; rfl, hr, hr.cell (by decide), hr.cell (by decide), hr.cell (by decide), hr.frozen _, hr.frozen _, hr.frozen _, hb, hs⟩
theorem pose_row {w W : World} {re0 im0 k0 re1 im1 k1 re2 im2 k2 : Int} (h : Hold_pose w re0 im0 k0 re1 im1 k1 re2 im2 k2 W) : RR (w.heap.size + 1) 3 45 W := h.2.2.2.2.2.2.2.2.2.1
theorem pose_bel {w W : World} {re0 im0 k0 re1 im1 k1 re2 im2 k2 : Int} (h : Hold_pose w re0 im0 k0 re1 im1 k1 re2 im2 k2 W) : Below w.heap.size w W := h.2.2.2.2.2.2.2.2.2.2.2.2.2.2.2.2.1
theorem pose_below {w W W' : World} {re0 im0 k0 re1 im1 k1 re2 im2 k2 : Int} (h : Hold_pose w re0 im0 k0 re1 im1 k1 re2 im2 k2 W) (hb : Below W.heap.size W W') : Hold_pose w re0 im0 k0 re1 im1 k1 re2 im2 k2 W' := by
  obtain ⟨h0, h1, h2, h3, h4, h5, h6, h7, h8, hr, _, _, _, _, _, _, hbb, hs⟩ := h
  have hsz := hb.size
  have hr' := hr.below hb hs
  exact ⟨(hb.cell (p := ⟨w.heap.size, 0, none⟩) (show w.heap.size < W.heap.size by omega)).trans h0, (hb.cell (p := ⟨w.heap.size, 1, none⟩) (show w.heap.size < W.heap.size by omega)).trans h1, (hb.cell (p := ⟨w.heap.size, 2, none⟩) (show w.heap.size < W.heap.size by omega)).trans h2, (hb.cell (p := ⟨w.heap.size, 3, none⟩) (show w.heap.size < W.heap.size by omega)).trans h3, (hb.cell (p := ⟨w.heap.size, 4, none⟩) (show w.heap.size < W.heap.size by omega)).trans h4, (hb.cell (p := ⟨w.heap.size, 5, none⟩) (show w.heap.size < W.heap.size by omega)).trans h5, (hb.cell (p := ⟨w.heap.size, 6, none⟩) (show w.heap.size < W.heap.size by omega)).trans h6, (hb.cell (p := ⟨w.heap.size, 7, none⟩) (show w.heap.size < W.heap.size by omega)).trans h7, (hb.cell (p := ⟨w.heap.size, 8, none⟩) (show w.heap.size < W.heap.size by omega)).trans h8, hr', hr'.cell (by decide), hr'.cell (by decide), hr'.cell (by decide), hr'.frozen _, hr'.frozen _, hr'.frozen _, hbb.trans (hb.mono (by omega)), by omega⟩
theorem pose_set {w W : World} {re0 im0 k0 re1 im1 k1 re2 im2 k2 : Int} (h : Hold_pose w re0 im0 k0 re1 im1 k1 re2 im2 k2 W) (i : Nat) (v : Value) : Hold_pose w re0 im0 k0 re1 im1 k1 re2 im2 k2 (W.setCell ⟨w.heap.size + 1, i, none⟩ v) := by
  obtain ⟨h0, h1, h2, h3, h4, h5, h6, h7, h8, hr, _, _, _, _, _, _, hbb, hs⟩ := h
  have hr' := hr.set i v
  exact ⟨(World.cell?_setCell_other _ _ _ _ (by simp)).trans h0, (World.cell?_setCell_other _ _ _ _ (by simp)).trans h1, (World.cell?_setCell_other _ _ _ _ (by simp)).trans h2, (World.cell?_setCell_other _ _ _ _ (by simp)).trans h3, (World.cell?_setCell_other _ _ _ _ (by simp)).trans h4, (World.cell?_setCell_other _ _ _ _ (by simp)).trans h5, (World.cell?_setCell_other _ _ _ _ (by simp)).trans h6, (World.cell?_setCell_other _ _ _ _ (by simp)).trans h7, (World.cell?_setCell_other _ _ _ _ (by simp)).trans h8, hr', hr'.cell (by decide), hr'.cell (by decide), hr'.cell (by decide), hr'.frozen _, hr'.frozen _, hr'.frozen _, hbb.setCell (by simp) _, by simpa using hs⟩
set_option maxRecDepth 100000 in
set_option maxHeartbeats 2000000 in
theorem pose_any (re0 im0 k0 re1 im1 k1 re2 im2 k2 : Int) (w : World) : Calls Try.prog 19 #[.agg #[.int .i64 re0, .int .i64 im0, .int .i64 k0, .int .i64 re1, .int .i64 im1, .int .i64 k1, .int .i64 re2, .int .i64 im2, .int .i64 k2]] w fun e w' => ∃ x1 y1 x2 y2 x3 y3, e = .returned (ps x1 y1 x2 y2 x3 y3) ∧ Num x1 y1 (plR re0 im0 k0) (plI re0 im0 k0) ∧ Num x2 y2 (plR re1 im1 k1) (plI re1 im1 k1) ∧ Num x3 y3 (plR re2 im2 k2) (plI re2 im2 k2) ∧ Below w.heap.size w w' := by
  have HK0 : Hold_pose w re0 im0 k0 re1 im1 k1 re2 im2 k2 ((w.alloc (.cells #[.int .i64 re0, .int .i64 im0, .int .i64 k0, .int .i64 re1, .int .i64 im1, .int .i64 k1, .int .i64 re2, .int .i64 im2, .int .i64 k2] 43)).alloc (.cells #[.complex .f64 0 0, .complex .f64 0 0, .complex .f64 0 0] 45)).drew := by
    refine pose_mk ?_ ⟨#[.complex .f64 0 0, .complex .f64 0 0, .complex .f64 0 0], rfl, ?_⟩ (below2 _ _ _).drew (by show w.heap.size + 1 < ((w.alloc _).alloc _).heap.size; simp)
    · show ((w.alloc _).alloc _).heap[w.heap.size]? = _
      rw [Below.heap_alloc _ _ _ (by simp)]; exact heap_alloc_new w _
    · exact two_allocs _ _ _ _
  go_enter Try.func19, Try.ntmps19
  go_wp2
  go_region_held3 (fun W => W.cell? ⟨w.heap.size, 0, none⟩ = some (.int .i64 re0) ∧ W.cell? ⟨w.heap.size, 1, none⟩ = some (.int .i64 im0) ∧ W.cell? ⟨w.heap.size, 2, none⟩ = some (.int .i64 k0) ∧ W.cell? ⟨w.heap.size, 3, none⟩ = some (.int .i64 re1) ∧ W.cell? ⟨w.heap.size, 4, none⟩ = some (.int .i64 im1) ∧ W.cell? ⟨w.heap.size, 5, none⟩ = some (.int .i64 k1) ∧ W.cell? ⟨w.heap.size, 6, none⟩ = some (.int .i64 re2) ∧ W.cell? ⟨w.heap.size, 7, none⟩ = some (.int .i64 im2) ∧ W.cell? ⟨w.heap.size, 8, none⟩ = some (.int .i64 k2) ∧ RR (w.heap.size + 1) 3 45 W ∧ W.cell? ⟨w.heap.size + 1, 0, none⟩ = some (gcell (w.heap.size + 1) W 0) ∧ W.cell? ⟨w.heap.size + 1, 1, none⟩ = some (gcell (w.heap.size + 1) W 1) ∧ W.cell? ⟨w.heap.size + 1, 2, none⟩ = some (gcell (w.heap.size + 1) W 2) ∧ W.frozen? ⟨w.heap.size + 1, 0, none⟩ = false ∧ W.frozen? ⟨w.heap.size + 1, 1, none⟩ = false ∧ W.frozen? ⟨w.heap.size + 1, 2, none⟩ = false ∧ Below w.heap.size w W ∧ w.heap.size + 1 < W.heap.size)
    (first | exact pose_below (by assumption) hbw | exact HK0 | exact pose_set (pose_set (pose_set (by assumption) _ _) _ _) _ _)
    (first | (go_at_call 14; refine (value_any _ _ _ _).mono ?_; rintro e w1 ⟨x, y, rfl, hN, hbw⟩))
  rename_i wa xa ya hNa hba wb xb yb hNb hbb hK
  have H1 := pose_below (pose_below (pose_below HK0 hba) hbb) hbw
  have R1 := pose_row H1
  go_wp2
  refine bodyPost_ret (results_cell_row rfl _ _ (w.heap.size + 1) 45 #[.complex .f64 xa ya, .complex .f64 xb yb, .complex .f64 x y] (0, 0) _ rfl (RR.row (vs := #[.complex .f64 xa ya, .complex .f64 xb yb, .complex .f64 x y]) (pose_row hK) ?_) Try.underlying45 rfl (by kernel_rfl)) rfl
    ⟨xa, ya, xb, yb, x, y, rfl, hNa, hNb, hN, pose_bel hK⟩
  intro i hi
  match i, hi with
  | 0, _ => rw [World.cell?_setCell_other _ _ _ _ (by simp), World.cell?_setCell_other _ _ _ _ (by simp), World.cell?_setCell_same' _ _ _ (by rw [R1.cell (by decide)]; rfl)]; rfl
  | 1, _ => rw [World.cell?_setCell_other _ _ _ _ (by simp), World.cell?_setCell_same' _ _ _ (by rw [World.cell?_setCell_other _ _ _ _ (by simp), R1.cell (by decide)]; rfl)]; rfl
  | 2, _ => rw [World.cell?_setCell_same' _ _ _ (by rw [World.cell?_setCell_other _ _ _ _ (by simp), World.cell?_setCell_other _ _ _ _ (by simp), R1.cell (by decide)]; rfl)]; rfl
end Go.Proofs.Ytbgllbjkmjlipaa
