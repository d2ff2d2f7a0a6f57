/- Contract: Places of a pose's parts. -/
import Derived.WalkMore
import Derived.Test.YtbgllbjkmjlipaaN5
import Derived.Test.YtbgllbjkmjlipaaW3
namespace Go.Proofs.Ytbgllbjkmjlipaa
open Go.RowKit
attribute [local go_sem] fmt64

theorem info131 : (Try.prog.info? 131).map (fun i => (i.zero, i.size, i.bytes)) = some (some (.agg #[.int .i64 0, .int .i64 0]), 2, 16) := by kernel_rfl
theorem make125 (W : World) : (Instr.makeSlice 125 (.int .i64 0) (.int .i64 3)).run Try.prog W = .ok (.slice (some ⟨W.heap.size, 0, none⟩) 0 3) (W.alloc (.cells #[.int .i64 0, .int .i64 0, .int .i64 0, .int .i64 0, .int .i64 0, .int .i64 0] 131)) := by
  obtain ⟨i0, hi, hz0, hz1, hz2⟩ := info_parts info131
  have h := run_make (P := Try.prog) W 125 131 i0 _ Try.underlying125 hi hz0 .i64 .i64 0 3 (by decide) (by decide) (by rw [hz2]; decide) (by decide)
  rw [hz1] at h
  have e : madeCells (Value.agg #[.int .i64 0, .int .i64 0]).cells (Int.toNat 3 * 2) = #[.int .i64 0, .int .i64 0, .int .i64 0, .int .i64 0, .int .i64 0, .int .i64 0] := by
    first | rfl | kernel_rfl | (simp [madeCells, Value.cells])
  rw [e] at h
  exact h
attribute [local go_sem] make125
theorem ix142 (W : World) : (Instr.index 142 entsV (.int .i64 3)).run Try.prog W = .ok (.agg #[.string ⟨#[112, 111, 105, 110, 116]⟩, .int .i64 64, .int .i64 64]) W := by
  first | kernel_rfl | rfl
theorem fd141 (W : World) : (Instr.field 141 (.agg #[.string ⟨#[112, 111, 105, 110, 116]⟩, .int .i64 64, .int .i64 64]) 1).run Try.prog W = .ok (.int .i64 64) W := by
  first | kernel_rfl | rfl
theorem fd141' (W : World) : (Instr.field 141 (.agg #[.string ⟨#[112, 111, 105, 110, 116]⟩, .int .i64 64, .int .i64 64]) 2).run Try.prog W = .ok (.int .i64 64) W := by
  first | kernel_rfl | rfl
attribute [local go_sem] ix142 fd141 fd141'

/-- Where the first k parts lie. -/
def plcs : Nat → List Value
  | 0 => []
  | k + 1 => plcs k ++ [.int .i64 k, .int .i64 0]
theorem plcs_len (k : Nat) : (plcs k).length = k * 2 := by
  induction k with
  | zero => rfl
  | succ k ih => rw [plcs, List.length_append, ih]; show k * 2 + 2 = _; omega
theorem reps_at {W : World} {g : Nat} (h : W.heap[g]? = some (.cells (reps 3) 129 (0, 0))) {k : Nat} (hk : k < 3) : W.cell? ⟨g, k * 2, none⟩ = some (.int .i64 3) ∧ W.cell? ⟨g, k * 2 + 1, none⟩ = some (.int .i64 64) := by
  rw [cell_of_row _ _ _ _ _ _ h, cell_of_row _ _ _ _ _ _ h]
  match k, hk with
  | 0, _ => exact ⟨rfl, rfl⟩
  | 1, _ => exact ⟨rfl, rfl⟩
  | 2, _ => exact ⟨rfl, rfl⟩
theorem own_neq {W : World} {B size : Nat} {e : TypeId} {v : Value} {n : Nat} {l : List Value} {g : Nat} (h : W.ownsRow B e size v n l) (hg : W.heap.size ≤ g) : v.ownBlock ≠ some g := by
  rcases h.2 with ⟨rfl, _⟩ | ⟨g', cap', cur, rfl, _, hh, _⟩
  · simp [Value.ownBlock]
  · have := (Array.getElem?_eq_some_iff.1 hh).1
    simp [Value.ownBlock]; omega
theorem grown_cell {W w2 : World} {ob : Option Nat} (hg : W.grownBy w2 ob) {b i : Nat} {v : Value} (hb : b < W.heap.size) (hne : ob ≠ some b) (h : W.cell? ⟨b, i, none⟩ = some v) : w2.cell? ⟨b, i, none⟩ = some v :=
  (World.cell?_of_block (w := W) (a := ⟨b, i, none⟩) (hg.block b hb (fun e => hne e.symm))).trans h
set_option maxRecDepth 100000 in
set_option maxHeartbeats 2000000 in
theorem places_any (g c : Nat) (w : World) (hrow : w.heap[g]? = some (.cells (reps 3) 129 (0, 0))) :
    Calls Try.prog 73 #[.slice (some ⟨g, 0, none⟩) 3 c] w fun e w' => ∃ v, e = .returned (.tuple #[v, .int .i64 3, .int .i64 0]) ∧ w'.ownsRow w.heap.size 131 2 v 3 (plcs 3) ∧ Below w.heap.size w w' := by
  obtain ⟨i0, hi, hz0, hz1, hz2⟩ := info_parts info131
  have hgl := (Array.getElem?_eq_some_iff.1 hrow).1
  have O1 := Lib.hid (World.ownsRow_made (base := w.heap.size) (e := 131) (size := 2) w #[.int .i64 0, .int .i64 0, .int .i64 0, .int .i64 0, .int .i64 0, .int .i64 0] 3 (Nat.le_refl _) (by unfold maxLen; omega) rfl)
  have B1 := Lib.hid ((Below.refl w.heap.size w).alloc (Nat.le_refl _) (.cells #[.int .i64 0, .int .i64 0, .int .i64 0, .int .i64 0, .int .i64 0, .int .i64 0] 131))
  have HR := Lib.hid hrow
  clear hrow
  go_enter Try.func73, Try.ntmps73
  go_wp2
  go_step3
  go_wp2
  go_step3
  go_wp2
  go_loopw [5, 6, 7, 8, 24] (fun er out a b i wr => ∃ (k a' : Nat) (b' : Int), k ≤ 3 ∧ ((k = 0 ∧ a' = 0 ∧ b' = 0) ∨ (1 ≤ k ∧ k = a' + 1 ∧ b' = 64)) ∧ er = .int .i64 0 ∧ i = .int .i64 k ∧ a = .int .i64 a' ∧ b = .int .i64 b' ∧ Hid (wr.ownsRow w.heap.size 131 2 out k (plcs k)) ∧ Hid (Below w.heap.size w wr)) (fun _ _ _ _ i _ => 3 - (intOf i).toNat)
  case atStart => exact ⟨0, 0, 0, by omega, .inl ⟨rfl, rfl, rfl⟩, rfl, rfl, rfl, rfl, O1, B1⟩
  case round =>
    clear O1 B1
    obtain ⟨k, a', b', hk, hab, rfl, rfl, rfl, rfl, HO, HB⟩ := hrel
    by_cases hlt : k < 3
    · have i1 : (0 : Int) ≤ (k : Int) := by omega
      have i2 : (k : Int) < 3 := by omega
      obtain ⟨c0, c1⟩ := reps_at ((HB.out.block g hgl).trans HR.out) hlt
      have H1 := Lib.hid (HO.out.alloc (.cells #[.int .i64 3, .int .i64 64] 129))
      have HB1 := Lib.hid (bt_alloc HB.out (.cells #[.int .i64 3, .int .i64 64] 129))
      obtain ⟨z0, z1, z2⟩ : (wr.alloc (.cells #[.int .i64 3, .int .i64 64] 129)).cell? ⟨wr.heap.size, 0, none⟩ = some (.int .i64 3) ∧ (wr.alloc (.cells #[.int .i64 3, .int .i64 64] 129)).cell? ⟨wr.heap.size, 1, none⟩ = some (.int .i64 64) ∧ wr.heap.size < (wr.alloc (.cells #[.int .i64 3, .int .i64 64] 129)).heap.size :=
        ⟨by rw [cell_of_row _ _ _ _ _ _ (heap_alloc_new wr _)]; rfl, by rw [cell_of_row _ _ _ _ _ _ (heap_alloc_new wr _)]; rfl, by simp⟩
      have hne := own_neq HO.out (Nat.le_refl _)
      clear HO HB
      rcases hab with ⟨rfl, rfl, rfl⟩ | ⟨hk1, rfl, rfl⟩
      · go_wp2_with fail
        generalize hW1 : wr.alloc (.cells #[.int .i64 3, .int .i64 64] 129) = w1 at *
        clear hW1
        have HZ := Lib.hid z2
        have sv : Hid (∀ W, Below w1.heap.size w1 W → Below w1.heap.size w1 W ∧ W.cell? ⟨wr.heap.size, 0, none⟩ = some (.int .i64 3) ∧ W.cell? ⟨wr.heap.size, 1, none⟩ = some (.int .i64 64)) := Lib.hid fun W hb => ⟨hb, (hb.cell (p := ⟨wr.heap.size, 0, none⟩) z2).trans z0, (hb.cell (p := ⟨wr.heap.size, 1, none⟩) z2).trans z1⟩
        have BK0 := (Below.refl w1.heap.size w1).drew
        clear z0 z1 z2
        go_region_held3 (fun W => Below w1.heap.size w1 W ∧ W.cell? ⟨wr.heap.size, 0, none⟩ = some (.int .i64 3) ∧ W.cell? ⟨wr.heap.size, 1, none⟩ = some (.int .i64 64))
          (first | (with_reducible exact sv.out _ BK0) | (with_reducible assumption) | (with_reducible exact sv.out _ (bt (And.left (by assumption)) hbw)))
          (first | (go_at_call 81; refine (entries_any _).mono ?_; rintro e w_ ⟨rfl, hbw⟩))
        rename_i hK
        obtain ⟨hb1, y0, y1⟩ := hK
        have H2 := Lib.hid (ownsRow_bel H1.out hb1)
        have HB2 := Lib.hid (bt HB1.out hb1)
        have LW2 := HB2.out.size
        have Y1 := Lib.hid y1
        have hpl : wr.heap.size < w_.heap.size := Nat.lt_of_lt_of_le HZ.out hb1.size
        clear y0
        clear sv BK0 H1 HB1 hb1
        go_wp2_with (at_builtin; go_must (refine wpList_append_own _ rfl _ _ 125 rfl w.heap.size 131 i0 _ 2 16 Try.underlying125 hi hz0 hz1 hz2 rfl (by decide) _ _ _ rfl (H2.out.alloc _) ⟨w_.heap.size, 0, none⟩ 1 1 [.int .i64 (0 : Nat), .int .i64 0] rfl rfl (News2 w_ _ _ _) (by simp [Value.oneCell']) (by unfold maxLen; omega) (by omega) (by simp <;> omega) ?_); intro v' w2 hown' hgrow _; have hb2 := below_append HB2.out LW2 H2.out hgrow; have p1 := grown_cell hgrow (by rw [World.size_alloc]; omega) hne (Lib.cell?_alloc_some _ Y1.out); have HOW := Lib.hid hown'; have HBW := Lib.hid hb2; clear hown' hgrow hb2)
        go_roundw
        case rel => exact ⟨1, 0, 64, by omega, .inr ⟨by omega, rfl, rfl⟩, rfl, by go_num, rfl, rfl, HOW, HBW⟩
        case measure => simp [intOf]
      · go_wp2_with fail
        generalize hW1 : wr.alloc (.cells #[.int .i64 3, .int .i64 64] 129) = w1 at *
        clear hW1
        have HZ := Lib.hid z2
        have sv : Hid (∀ W, Below w1.heap.size w1 W → Below w1.heap.size w1 W ∧ W.cell? ⟨wr.heap.size, 0, none⟩ = some (.int .i64 3) ∧ W.cell? ⟨wr.heap.size, 1, none⟩ = some (.int .i64 64)) := Lib.hid fun W hb => ⟨hb, (hb.cell (p := ⟨wr.heap.size, 0, none⟩) z2).trans z0, (hb.cell (p := ⟨wr.heap.size, 1, none⟩) z2).trans z1⟩
        have BK0 := (Below.refl w1.heap.size w1).drew
        clear z0 z1 z2
        go_region_held3 (fun W => Below w1.heap.size w1 W ∧ W.cell? ⟨wr.heap.size, 0, none⟩ = some (.int .i64 3) ∧ W.cell? ⟨wr.heap.size, 1, none⟩ = some (.int .i64 64))
          (first | (with_reducible exact sv.out _ BK0) | (with_reducible assumption) | (with_reducible exact sv.out _ (bt (And.left (by assumption)) hbw)))
          (first | (go_at_call 81; refine (entries_any _).mono ?_; rintro e w_ ⟨rfl, hbw⟩))
        rename_i hK
        obtain ⟨hb1, y0, y1⟩ := hK
        have H2 := Lib.hid (ownsRow_bel H1.out hb1)
        have HB2 := Lib.hid (bt HB1.out hb1)
        have LW2 := HB2.out.size
        have Y1 := Lib.hid y1
        have hpl : wr.heap.size < w_.heap.size := Nat.lt_of_lt_of_le HZ.out hb1.size
        clear y0
        clear sv BK0 H1 HB1 hb1
        go_wp2_with (at_builtin; go_must (refine wpList_append_own _ rfl _ _ 125 rfl w.heap.size 131 i0 _ 2 16 Try.underlying125 hi hz0 hz1 hz2 rfl (by decide) _ _ _ rfl (H2.out.alloc _) ⟨w_.heap.size, 0, none⟩ 1 1 [.int .i64 ((a' + 1 : Nat) : Int), .int .i64 0] rfl rfl (News2 w_ _ _ _) (by simp [Value.oneCell']) (by unfold maxLen; omega) (by omega) (by simp <;> omega) ?_); intro v' w2 hown' hgrow _; have hb2 := below_append HB2.out LW2 H2.out hgrow; have p1 := grown_cell hgrow (by rw [World.size_alloc]; omega) hne (Lib.cell?_alloc_some _ Y1.out); have HOW := Lib.hid hown'; have HBW := Lib.hid hb2; clear hown' hgrow hb2)
        go_roundw
        case rel => exact ⟨a' + 1 + 1, a' + 1, 64, by omega, .inr ⟨by omega, rfl, rfl⟩, rfl, by go_num, by go_num, rfl, HOW, HBW⟩
        case measure => simp [intOf]; omega
    · obtain rfl : k = 3 := by omega
      obtain ⟨rfl, rfl⟩ : a' = 2 ∧ b' = 64 := by omega
      clear hab
      go_wp2
      rw [Exit.noGoto_ret]
      go_ret3
      exact ⟨_, rfl, HO.out, HB.out⟩
end Go.Proofs.Ytbgllbjkmjlipaa
