/- Contracts: Encode and Decode of a pose. -/
import Derived.Test.YtbgllbjkmjlipaaN11
namespace Go.Proofs.Ytbgllbjkmjlipaa
open Go.RowKit
attribute [local go_sem] fmt64
attribute [local go_sem ↓] st45
attribute [local go_sem] st45_run rr45 World.setRow_alloc_new

theorem form_at (w : World) : Calls Try.prog 63 #[] w fun e w' => e = .returned (.slice (some ⟨w.heap.size + 1, 0, none⟩) 3 3) ∧ Below w.heap.size w w' ∧ w'.heap[w.heap.size + 1]? = some (.cells (reps 3) 129 (0, 0)) := by
  have hr := repeat_any (w.alloc (.cells #[.int .i64 3, .int .i64 64] 129)) w.heap.size 1 (by simp) (by rw [cell_of_row _ _ _ _ _ _ (heap_alloc_new w _)]; rfl) (by rw [cell_of_row _ _ _ _ _ _ (heap_alloc_new w _)]; rfl)
  have hB0 := (Below.refl w.heap.size w).alloc (Nat.le_refl _) (.cells #[.int .i64 3, .int .i64 64] 129)
  simp only [World.size_alloc] at hr
  go_enter Try.func63, Try.ntmps63
  go_wp2_with fail
  refine hr.mono ?_
  rintro e w1 ⟨rfl, hb, hrow⟩
  have hB1 : Below w.heap.size w w1 := hB0.trans (hb.mono (by omega))
  go_wp2
  go_ret
  exact ⟨rfl, hB1, hrow⟩
theorem bt_at {W0 W W' : World} (h : Below W0.heap.size W0 W) (_ : Below W.heap.size W W') : W0.heap.size ≤ W.heap.size := h.size

set_option maxRecDepth 100000 in
set_option maxHeartbeats 2000000 in
theorem nencode_no (x1 y1 x2 y2 x3 y3 : Nat) (c : Int) (hc : ∀ w, Calls Try.prog 29 #[ps x1 y1 x2 y2 x3 y3] w fun e w' => e = .returned (.int .i64 c) ∧ Below w.heap.size w w') (h0 : c ≠ 0) (w : World) :
    Calls Try.prog 41 #[ps x1 y1 x2 y2 x3 y3] w fun e w' => e = .returned (.tuple #[.slice none 0 0, .int .i64 c]) ∧ Below w.heap.size w w' := by
  have e1 : (c != 0) = true := by simp [bne, h0]
  have hB0 := Lib.hid (bt_alloc (Below.refl w.heap.size w) (.cells #[cx x1 y1, cx x2 y2, cx x3 y3] 45))
  clear h0
  go_enter Try.func41, Try.ntmps41
  go_wp2_with fail
  refine (hc _).mono ?_
  rintro e w1 ⟨rfl, hb1⟩
  have hB1 := Lib.hid (bt hB0.out hb1)
  clear hb1 hB0
  go_wp2
  go_ret2
  exact ⟨rfl, hB1.out⟩
set_option maxRecDepth 100000 in
set_option maxHeartbeats 4000000 in
theorem nencode_ok (R I S J N M : Int) (h1 : R.natAbs < 1048576) (h2 : I.natAbs < 1048576) (h3 : S.natAbs < 1048576) (h4 : J.natAbs < 1048576) (h5 : N.natAbs < 1048576) (h6 : M.natAbs < 1048576) (hc : ∀ w, Calls Try.prog 29 #[ps (wd false R) (wd false I) (wd false S) (wd false J) (wd false N) (wd false M)] w fun e w' => e = .returned (.int .i64 0) ∧ Below w.heap.size w w') (w : World) :
    Calls Try.prog 41 #[ps (wd false R) (wd false I) (wd false S) (wd false J) (wd false N) (wd false M)] w fun e w' => ∃ go, e = .returned (.tuple #[.slice (some ⟨go, 0, none⟩) 3 3, .int .i64 0]) ∧ w'.ownsRow w.heap.size 119 1 (.slice (some ⟨go, 0, none⟩) 3 3) 3 (u3 fun k => wrdF (f3 R I S J N M k).1 (f3 R I S J N M k).2) ∧ Below w.heap.size w w' := by
  have L0 := Lib.hid ((LW.nil w).new 45 #[cx (wd false R) (wd false I), cx (wd false S) (wd false J), cx (wd false N) (wd false M)])
  have n1 := nplain_any false false R I (by omega) (by omega)
  have n2 := nplain_any false false S J (by omega) (by omega)
  have n3 := nplain_any false false N M (by omega) (by omega)
  have henc := encode_rows (f3 R I S J N M) (by intro k hk; match k, hk with | 0, _ => exact ⟨h1, h2⟩ | 1, _ => exact ⟨h3, h4⟩ | 2, _ => exact ⟨h5, h6⟩)
  have hv3 : v3 (f3 R I S J N M) = #[.int .i64 0, cx (wd false R) (wd false I), .int .i64 0, cx (wd false S) (wd false J), .int .i64 0, cx (wd false N) (wd false M)] := rfl
  rw [hv3] at henc
  clear hv3 h1 h2 h3 h4 h5 h6
  go_enter Try.func41, Try.ntmps41
  go_wp2_with fail
  refine (hc _).mono ?_
  rintro e w1 ⟨rfl, hb1⟩
  have L1 := Lib.hid (L0.out.bel hb1)
  clear hb1 L0 hc
  go_wp2
  generalize wd false R = X1 at *
  generalize wd false I = Y1 at *
  generalize wd false S = X2 at *
  generalize wd false J = Y2 at *
  generalize wd false N = X3 at *
  generalize wd false M = Y3 at *
  have hws := L1.out.below.size
  have sv : Hid (∀ W, Below w1.heap.size w1 W → Below w1.heap.size w1 W ∧ W.cell? ⟨w.heap.size, 0, none⟩ = some (cx X1 Y1) ∧ W.cell? ⟨w.heap.size, 1, none⟩ = some (cx X2 Y2) ∧ W.cell? ⟨w.heap.size, 2, none⟩ = some (cx X3 Y3)) := Lib.hid fun W hb => by
    have LL := L1.out.bel hb
    exact ⟨hb, LL.cell (i := 0) (List.mem_cons_self ..) rfl, LL.cell (i := 1) (List.mem_cons_self ..) rfl, LL.cell (i := 2) (List.mem_cons_self ..) rfl⟩
  have BK0 := (Below.refl w1.heap.size w1).drew
  go_region_held3 (fun W => Below w1.heap.size w1 W ∧ W.cell? ⟨w.heap.size, 0, none⟩ = some (cx X1 Y1) ∧ W.cell? ⟨w.heap.size, 1, none⟩ = some (cx X2 Y2) ∧ W.cell? ⟨w.heap.size, 2, none⟩ = some (cx X3 Y3))
    (first | (with_reducible exact sv.out _ BK0) | (with_reducible assumption) | (with_reducible exact sv.out _ (bt (And.left (by assumption)) hbw)) | (with_reducible exact sv.out _ (bt_alloc (And.left (by assumption)) _)) | (with_reducible exact sv.out _ (bt_allocd (And.left (by assumption)) _)))
    (first | (go_at_call 57; (first | (with_reducible refine (n1 _).mono ?_) | (with_reducible refine (n2 _).mono ?_) | (with_reducible refine (n3 _).mono ?_)); rintro e w_ ⟨rfl, rfl⟩) | (go_at_call 63; refine (form_at _).mono ?_; rintro e w_ ⟨rfl, hbw, hrow⟩) | (go_at_call 62; refine (henc _ _ _ _ _ (by first | (exact hrow) | (exact (Below.heap_alloc _ _ _ (Array.getElem?_eq_some_iff.1 hrow).1).trans hrow)) (by first | (exact heap_alloc_new _ _) | (exact (hbw.block _ (by simp)).trans (heap_alloc_new _ _)))).mono ?_; rintro e w_ ⟨go, rfl, hown, hbw⟩; have hge := bt_at (And.left (by assumption)) hbw))
  all_goals
    rename_i hK
    have HO := Lib.hid (own_low hown (Nat.le_trans hws hge))
    have HB := Lib.hid (L1.out.bel hK.1).below
    clear hown hK
    go_wp2
    go_ret2
    exact ⟨go, rfl, HO.out, HB.out⟩

set_option maxRecDepth 100000 in
theorem ndecode_len (A : Option Addr) (n cap : Nat) (_hn : n ≤ 100) (h3 : n ≠ 3) (w : World) : Calls Try.prog 42 #[.slice A n cap] w fun e w' => e = .returned (.tuple #[ps 0 0 0 0 0 0, .int .i64 17]) ∧ Below w.heap.size w w' := by
  have d0 : ((n : Int) != 3) = true := by simp [bne]; omega
  have hr : RR w.heap.size 3 45 (w.alloc (.cells #[.complex .f64 0 0, .complex .f64 0 0, .complex .f64 0 0] 45)) := rr45 _ _ _ _
  have HB := Lib.hid (bt_alloc (Below.refl w.heap.size w) (.cells #[.complex .f64 0 0, .complex .f64 0 0, .complex .f64 0 0] 45))
  go_enter Try.func42, Try.ntmps42
  go_wp2
  exact bodyPost_ret (results_row_tmp rfl _ _ w.heap.size 45 #[cx 0 0, cx 0 0, cx 0 0] (0, 0) _ rfl (heap_alloc_new _ _) Try.underlying45 rfl (by kernel_rfl)) rfl ⟨rfl, HB.out⟩
end Go.Proofs.Ytbgllbjkmjlipaa
