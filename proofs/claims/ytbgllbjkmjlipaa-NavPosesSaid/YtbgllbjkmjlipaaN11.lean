/- Contract: the values of a pose's record. -/
import Derived.Test.YtbgllbjkmjlipaaN10
import Derived.Deep.RegionLaw
namespace Go.Proofs.Ytbgllbjkmjlipaa
open Go.RowKit
attribute [local go_sem] fmt64
attribute [local go_sem] run_store_complex

theorem info115 : (Try.prog.info? 115).map (fun i => (i.zero, i.size, i.bytes)) = some (some (.agg #[.int .i64 0, .complex .f64 0 0]), 2, 24) := by kernel_rfl
theorem make116 (W : World) : (Instr.makeSlice 116 (.int .i64 3) (.int .i64 3)).run Try.prog W = .ok (.slice (some ⟨W.heap.size, 0, none⟩) 3 3) (W.alloc (.cells #[.int .i64 0, cx 0 0, .int .i64 0, cx 0 0, .int .i64 0, cx 0 0] 115)) := by
  obtain ⟨i0, hi, hz0, hz1, hz2⟩ := info_parts info115
  have h := run_make (P := Try.prog) W 116 115 i0 _ Try.underlying116 hi hz0 .i64 .i64 3 3 (by decide) (by decide) (by rw [hz2]; decide) (by decide)
  rw [hz1] at h
  have e : madeCells (Value.agg #[.int .i64 0, .complex .f64 0 0]).cells (Int.toNat 3 * 2) = #[.int .i64 0, cx 0 0, .int .i64 0, cx 0 0, .int .i64 0, cx 0 0] := by
    first | rfl | kernel_rfl | (simp [madeCells, Value.cells])
  rw [e] at h
  exact h
attribute [local go_sem] make116
/-- Three values. -/
def p6 (z : Nat → Value) : List Value := [.int .i64 0, z 0, .int .i64 0, z 1, .int .i64 0, z 2]
/-- A word's number. -/
def dval (x : Nat → Nat) (j : Nat) : Value := cx (wd false (lo32 (x j))) (wd false (hi32 (x j)))
theorem p6_set (z : Nat → Value) (v : Value) {k : Nat} (hk : k < 3) : ((p6 z).set (k * 2) (.int .i64 0)).set (k * 2 + 1) v = p6 (fun j => if j = k then v else z j) := by
  match k, hk with
  | 0, _ => rfl
  | 1, _ => rfl
  | 2, _ => rfl
theorem p6_at {W : World} {B g c : Nat} {z : Nat → Value} (h : W.ownsRow B 115 2 (.slice (some ⟨g, 0, none⟩) 3 c) 3 (p6 z)) {k : Nat} (hk : k < 3) : W.cell? ⟨g, k * 2, none⟩ = some (.int .i64 0) ∧ W.cell? ⟨g, k * 2 + 1, none⟩ = some (z k) := by
  rw [h.cellAt _ (by omega), h.cellAt _ (by omega)]
  match k, hk with
  | 0, _ => exact ⟨rfl, rfl⟩
  | 1, _ => exact ⟨rfl, rfl⟩
  | 2, _ => exact ⟨rfl, rfl⟩
theorem max64 (w : World) : Calls Try.prog 77 #[.agg #[.int .i64 0, .int .i64 64]] w fun e w' => e = .returned (.int .u64 18446744073709551615) ∧ Below w.heap.size w w' := by
  have h := bmax_any 0 64 w
  have e : maxF 0 64 = 18446744073709551615 := by
    have hm : mayB 0 64 = true := by decide
    unfold maxF
    rw [hm, if_pos rfl]
    exact (max_eq 64 (by omega)).symm
  rw [e] at h
  exact h
theorem andNot_all (n : Nat) (hn : n < 18446744073709551616) : bits .andNot .u64 (n : Int) 18446744073709551615 = 0 := by
  have h := u64_andNot_nat n 18446744073709551615 hn (by omega)
  rw [show ((18446744073709551615 : Nat) : Int) = 18446744073709551615 from rfl] at h
  rw [h]
  simp
/-- What lies in a cell. -/
@[irreducible] def zc (W : World) (g i : Nat) : Value := (W.cell? ⟨g, i, none⟩).getD undef
theorem zc_of {W : World} {g i : Nat} {v : Value} (h : W.cell? ⟨g, i, none⟩ = some v) : W.cell? ⟨g, i, none⟩ = some (zc W g i) := by
  unfold zc
  rw [h]
  rfl
theorem p6_put {W : World} {B g c : Nat} {z : Nat → Value} (h : W.ownsRow B 115 2 (.slice (some ⟨g, 0, none⟩) 3 c) 3 (p6 z)) {k : Nat} (hk : k < 3) (v : Value) : ((W.setCell ⟨g, k * 2, none⟩ (.int .i64 0)).setCell ⟨g, k * 2 + 1, none⟩ v).ownsRow B 115 2 (.slice (some ⟨g, 0, none⟩) 3 c) 3 (p6 fun j => if j = k then v else z j) := by
  have h1 := ((h.stored (k * 2) (.int .i64 0)).1.stored (k * 2 + 1) v).1
  rw [p6_set z v hk] at h1
  exact h1
theorem own_none (W : World) (B size : Nat) (e : TypeId) : W.ownsRow B e size (.slice none 0 0) 0 [] := ⟨by simp, .inl ⟨rfl, rfl⟩⟩

set_option maxRecDepth 100000 in
set_option maxHeartbeats 4000000 in
theorem decode_rows (x : Nat → Nat) (hx : ∀ k, k < 3 → x k < 18446744073709551616) (g c b off cap : Nat) (w : World) (hrow : w.heap[g]? = some (.cells (reps 3) 129 (0, 0))) (hb : b < w.heap.size) (hw : ∀ k, k < 3 → w.cell? ⟨b, off + k, none⟩ = some (.int .u64 (x k))) :
    Calls Try.prog 64 #[.slice (some ⟨g, 0, none⟩) 3 c, .slice (some ⟨b, off, none⟩) 3 cap] w fun e w' => ∃ go, e = .returned (.tuple #[.slice (some ⟨go, 0, none⟩) 3 3, .int .i64 0]) ∧ w'.ownsRow w.heap.size 115 2 (.slice (some ⟨go, 0, none⟩) 3 3) 3 (p6 (dval x)) ∧ Below w.heap.size w w' := by
  obtain ⟨i0, hi, hz0, hz1, hz2⟩ := info_parts info119
  have hgl := (Array.getElem?_eq_some_iff.1 hrow).1
  have hp := places_any g c w hrow
  have HR := Lib.hid hrow
  have HX := Lib.hid hx
  have HW := Lib.hid hw
  clear hrow hx hw
  go_enter Try.func64, Try.ntmps64
  go_wp2_with fail
  refine hp.mono ?_
  rintro e w1 ⟨va, rfl, hpl, hb1⟩
  obtain ⟨ga, ca, rfl, hga, hga2, hpl⟩ := own_bk (by omega) hpl
  have P1 := Lib.hid hpl
  have B1 := Lib.hid hb1
  have hws := hb1.size
  have HW1 : Hid (∀ j u, [Value.int .u64 (x 0), .int .u64 (x 1), .int .u64 (x 2)][j]? = some u → w1.cell? ((⟨b, off, none⟩ : Addr).add j) = some u) := Lib.hid fun j u hj => by
    rw [Addr.add_lit, hb1.cell (p := ⟨b, off + j, none⟩) hb]
    match j, hj with
    | 0, hj => rw [← hj]; exact HW.out 0 (by omega)
    | 1, hj => rw [← hj]; exact HW.out 1 (by omega)
    | 2, hj => rw [← hj]; exact HW.out 2 (by omega)
  clear hpl hb1 hp
  go_wp2_with (at_builtin; refine wpList_append_own _ rfl _ _ 86 rfl w1.heap.size 119 i0 _ 1 8 Try.underlying86 hi hz0 hz1 hz2 rfl (by decide) _ _ _ rfl (own_none w1 w1.heap.size 1 119) ⟨b, off, none⟩ 3 cap [.int .u64 (x 0), .int .u64 (x 1), .int .u64 (x 2)] rfl rfl HW1.out (by simp [Value.oneCell']) (by unfold maxLen; omega) (by omega) (Nat.le_refl _) ?_; intro vl w2 hown hgrow hor; have OL0 := Lib.hid hown; have HG := Lib.hid hgrow; clear hown hgrow hor)
  obtain ⟨gl, cl, rfl, hgl1, hgl2, hown⟩ := own_bk (n := 3) (by omega) OL0.out
  have hb2 : Below w1.heap.size w1 w2 := Below.grown (Below.refl w1.heap.size w1) (show w1.grownBy w2 none from HG.out) (Nat.le_refl _) (fun k hk => by cases hk)
  have OL := Lib.hid ((own_low hown hws).alloc (.cells #[.int .i64 0, cx 0 0, .int .i64 0, cx 0 0, .int .i64 0, cx 0 0] 115))
  have P2 := Lib.hid ((ownsRow_bel P1.out hb2).alloc (.cells #[.int .i64 0, cx 0 0, .int .i64 0, cx 0 0, .int .i64 0, cx 0 0] 115))
  have B2 := Lib.hid (bt_alloc (bt B1.out hb2) (.cells #[.int .i64 0, cx 0 0, .int .i64 0, cx 0 0, .int .i64 0, cx 0 0] 115))
  have hw2 := hb2.size
  clear hown hb2 OL0 HG
  have O2 : Hid ((w2.alloc (.cells #[.int .i64 0, cx 0 0, .int .i64 0, cx 0 0, .int .i64 0, cx 0 0] 115)).ownsRow w.heap.size 115 2 (.slice (some ⟨w2.heap.size, 0, none⟩) 3 3) 3 (p6 fun _ => cx 0 0)) := Lib.hid (World.ownsRow_lit w2 #[.int .i64 0, cx 0 0, .int .i64 0, cx 0 0, .int .i64 0, cx 0 0] 3 (by omega) (by unfold maxLen; omega) rfl)
  obtain ⟨go, hgo⟩ : ∃ go, go = w2.heap.size := ⟨_, rfl⟩
  rw [← hgo] at O2 ⊢
  have hlo : gl < go := by omega
  have hal : ga < gl := by omega
  have hwl : w.heap.size ≤ gl := by omega
  clear hgo hgl1 hgl2 hw2 hga2 P1 B1 HW1
  go_loopw [37] (fun i wr => ∃ k : Nat, k ≤ 3 ∧ i = .int .i64 k ∧ Hid (wr.ownsRow w.heap.size 115 2 (.slice (some ⟨go, 0, none⟩) 3 3) 3 (p6 fun j => if j < k then dval x j else cx 0 0)) ∧ Hid (wr.ownsRow w.heap.size 119 1 (.slice (some ⟨gl, 0, none⟩) 3 cl) 3 (u3 fun j => if j < k then 0 else x j)) ∧ Hid (wr.ownsRow w.heap.size 131 2 (.slice (some ⟨ga, 0, none⟩) 3 ca) 3 (plcs 3)) ∧ Hid (Below w.heap.size w wr)) (fun i _ => 3 - (intOf i).toNat)
  case atStart => exact ⟨0, by omega, rfl, O2, OL, P2, B2⟩
  case round =>
    clear O2 OL P2 B2
    obtain ⟨k, hk, rfl, HO, HL, HP, HB⟩ := hrel
    by_cases hlt : k < 3
    · have i1 : (0 : Int) ≤ (k : Int) := by omega
      have i2 : (k : Int) < 3 := by omega
      obtain ⟨c0, c1⟩ := reps_at ((HB.out.block g hgl).trans HR.out) hlt
      have hgow : go < wr.heap.size := (own_bk (by omega) HO.out).elim fun _ h => h.elim fun _ h => by cases h.1; exact h.2.2.1
      have rp := heap_alloc_new wr (.cells #[.int .i64 3, .int .i64 64] 129)
      have O1 := Lib.hid (HO.out.alloc (.cells #[.int .i64 3, .int .i64 64] 129))
      have L1 := Lib.hid (HL.out.alloc (.cells #[.int .i64 3, .int .i64 64] 129))
      have P1 := Lib.hid (HP.out.alloc (.cells #[.int .i64 3, .int .i64 64] 129))
      have B1 := Lib.hid (bt_alloc HB.out (.cells #[.int .i64 3, .int .i64 64] 129))
      obtain ⟨z0, z1⟩ := plcs_at P1.out hlt
      clear HO HL HP HB
      go_wp2
      generalize hW1 : wr.alloc (.cells #[.int .i64 3, .int .i64 64] 129) = w3 at *
      clear hW1 c0 c1
      go_quiet (fail)
      generalize hW2 : w3.drewN nq = w4
      have hBd : Below w3.heap.size w3 w4 := by rw [← hW2]; exact ⟨rfl, rfl, rfl, Nat.le_refl _, fun _ _ => rfl⟩
      clear hW2 z0 z1
      have I1 : (∃ z : Nat → Value, w4.ownsRow w.heap.size 115 2 (.slice (some ⟨go, 0, none⟩) 3 3) 3 (p6 z)) ∧ w4.ownsRow w.heap.size 119 1 (.slice (some ⟨gl, 0, none⟩) 3 cl) 3 (u3 fun j => if j < k then 0 else x j) ∧ w4.ownsRow w.heap.size 131 2 (.slice (some ⟨ga, 0, none⟩) 3 ca) 3 (plcs 3) ∧ Below w.heap.size w w4 ∧ w4.heap[wr.heap.size]? = some (.cells #[.int .i64 3, .int .i64 64] 129 (0, 0)) := ⟨⟨_, ownsRow_bel O1.out hBd⟩, ownsRow_bel L1.out hBd, ownsRow_bel P1.out hBd, bt B1.out hBd, (hBd.block _ (Array.getElem?_eq_some_iff.1 rp).1).trans rp⟩
      have O4 := Lib.hid (ownsRow_bel O1.out hBd)
      clear O1 L1 P1 B1 rp hBd
      have hgt := get_pt (x k) (HX.out k hlt)
      have HC : Hid (∀ W, (∃ z : Nat → Value, W.ownsRow w.heap.size 115 2 (.slice (some ⟨go, 0, none⟩) 3 3) 3 (p6 z)) ∧ W.ownsRow w.heap.size 119 1 (.slice (some ⟨gl, 0, none⟩) 3 cl) 3 (u3 fun j => if j < k then 0 else x j) ∧ W.ownsRow w.heap.size 131 2 (.slice (some ⟨ga, 0, none⟩) 3 ca) 3 (plcs 3) ∧ Below w.heap.size w W ∧ W.heap[wr.heap.size]? = some (.cells #[.int .i64 3, .int .i64 64] 129 (0, 0)) → ((∃ z : Nat → Value, W.ownsRow w.heap.size 115 2 (.slice (some ⟨go, 0, none⟩) 3 3) 3 (p6 z)) ∧ W.ownsRow w.heap.size 119 1 (.slice (some ⟨gl, 0, none⟩) 3 cl) 3 (u3 fun j => if j < k then 0 else x j) ∧ W.ownsRow w.heap.size 131 2 (.slice (some ⟨ga, 0, none⟩) 3 ca) 3 (plcs 3) ∧ Below w.heap.size w W ∧ W.heap[wr.heap.size]? = some (.cells #[.int .i64 3, .int .i64 64] 129 (0, 0))) ∧ W.cell? ⟨wr.heap.size, 0, none⟩ = some (.int .i64 3) ∧ W.cell? ⟨wr.heap.size, 1, none⟩ = some (.int .i64 64) ∧ W.cell? ⟨b, off + k, none⟩ = some (.int .u64 (x k)) ∧ W.cell? ⟨go, k * 2, none⟩ = some (.int .i64 0) ∧ W.cell? ⟨go, k * 2 + 1, none⟩ = some (zc W go (k * 2 + 1)) ∧ W.frozen? ⟨go, k * 2, none⟩ = false ∧ W.frozen? ⟨go, k * 2 + 1, none⟩ = false) := Lib.hid fun W h => by
        obtain ⟨⟨z, ho⟩, hl, hp2, hb2, hr2⟩ := h
        have o := p6_at ho hlt
        exact ⟨⟨⟨z, ho⟩, hl, hp2, hb2, hr2⟩, by rw [cell_of_row _ _ _ _ _ _ hr2]; rfl, by rw [cell_of_row _ _ _ _ _ _ hr2]; rfl, (hb2.cell (p := ⟨b, off + k, none⟩) hb).trans (HW.out k hlt), o.1, zc_of o.2, ho.frozenAt _, ho.frozenAt _⟩
      have HBL : Hid (∀ W W', ((∃ z : Nat → Value, W.ownsRow w.heap.size 115 2 (.slice (some ⟨go, 0, none⟩) 3 3) 3 (p6 z)) ∧ W.ownsRow w.heap.size 119 1 (.slice (some ⟨gl, 0, none⟩) 3 cl) 3 (u3 fun j => if j < k then 0 else x j) ∧ W.ownsRow w.heap.size 131 2 (.slice (some ⟨ga, 0, none⟩) 3 ca) 3 (plcs 3) ∧ Below w.heap.size w W ∧ W.heap[wr.heap.size]? = some (.cells #[.int .i64 3, .int .i64 64] 129 (0, 0))) → Below W.heap.size W W' → (∃ z : Nat → Value, W'.ownsRow w.heap.size 115 2 (.slice (some ⟨go, 0, none⟩) 3 3) 3 (p6 z)) ∧ W'.ownsRow w.heap.size 119 1 (.slice (some ⟨gl, 0, none⟩) 3 cl) 3 (u3 fun j => if j < k then 0 else x j) ∧ W'.ownsRow w.heap.size 131 2 (.slice (some ⟨ga, 0, none⟩) 3 ca) 3 (plcs 3) ∧ Below w.heap.size w W' ∧ W'.heap[wr.heap.size]? = some (.cells #[.int .i64 3, .int .i64 64] 129 (0, 0))) := Lib.hid fun W W' h hb => ⟨h.1.elim fun z hz => ⟨z, ownsRow_bel hz hb⟩, ownsRow_bel h.2.1 hb, ownsRow_bel h.2.2.1 hb, bt h.2.2.2.1 hb, (hb.block wr.heap.size (Array.getElem?_eq_some_iff.1 h.2.2.2.2).1).trans h.2.2.2.2⟩
      have HS : Hid (∀ W v, ((∃ z : Nat → Value, W.ownsRow w.heap.size 115 2 (.slice (some ⟨go, 0, none⟩) 3 3) 3 (p6 z)) ∧ W.ownsRow w.heap.size 119 1 (.slice (some ⟨gl, 0, none⟩) 3 cl) 3 (u3 fun j => if j < k then 0 else x j) ∧ W.ownsRow w.heap.size 131 2 (.slice (some ⟨ga, 0, none⟩) 3 ca) 3 (plcs 3) ∧ Below w.heap.size w W ∧ W.heap[wr.heap.size]? = some (.cells #[.int .i64 3, .int .i64 64] 129 (0, 0))) → (∃ z : Nat → Value, ((W.setCell ⟨go, k * 2, none⟩ (.int .i64 0)).setCell ⟨go, k * 2 + 1, none⟩ v).ownsRow w.heap.size 115 2 (.slice (some ⟨go, 0, none⟩) 3 3) 3 (p6 z)) ∧ ((W.setCell ⟨go, k * 2, none⟩ (.int .i64 0)).setCell ⟨go, k * 2 + 1, none⟩ v).ownsRow w.heap.size 119 1 (.slice (some ⟨gl, 0, none⟩) 3 cl) 3 (u3 fun j => if j < k then 0 else x j) ∧ ((W.setCell ⟨go, k * 2, none⟩ (.int .i64 0)).setCell ⟨go, k * 2 + 1, none⟩ v).ownsRow w.heap.size 131 2 (.slice (some ⟨ga, 0, none⟩) 3 ca) 3 (plcs 3) ∧ Below w.heap.size w ((W.setCell ⟨go, k * 2, none⟩ (.int .i64 0)).setCell ⟨go, k * 2 + 1, none⟩ v) ∧ ((W.setCell ⟨go, k * 2, none⟩ (.int .i64 0)).setCell ⟨go, k * 2 + 1, none⟩ v).heap[wr.heap.size]? = some (.cells #[.int .i64 3, .int .i64 64] 129 (0, 0))) := Lib.hid fun W v h => ⟨h.1.elim fun z hz => ⟨_, p6_put hz hlt v⟩, ownsRow_setCell_other (a := ⟨go, k * 2 + 1, none⟩) (ownsRow_setCell_other (a := ⟨go, k * 2, none⟩) h.2.1 (by simp [Value.ownBlock]; omega) _) (by simp [Value.ownBlock]; omega) _, ownsRow_setCell_other (a := ⟨go, k * 2 + 1, none⟩) (ownsRow_setCell_other (a := ⟨go, k * 2, none⟩) h.2.2.1 (by simp [Value.ownBlock]; omega) _) (by simp [Value.ownBlock]; omega) _, (h.2.2.2.1.setCell (by show w.heap.size ≤ go; omega) _).setCell (by show w.heap.size ≤ go; omega) _, (Below.heap_setCell _ ⟨go, k * 2 + 1, none⟩ _ wr.heap.size (by show wr.heap.size ≠ go; omega)).trans ((Below.heap_setCell W ⟨go, k * 2, none⟩ _ wr.heap.size (by show wr.heap.size ≠ go; omega)).trans h.2.2.2.2)⟩
      have I0 : (∃ z : Nat → Value, w4.drew.ownsRow w.heap.size 115 2 (.slice (some ⟨go, 0, none⟩) 3 3) 3 (p6 z)) ∧ w4.drew.ownsRow w.heap.size 119 1 (.slice (some ⟨gl, 0, none⟩) 3 cl) 3 (u3 fun j => if j < k then 0 else x j) ∧ w4.drew.ownsRow w.heap.size 131 2 (.slice (some ⟨ga, 0, none⟩) 3 ca) 3 (plcs 3) ∧ Below w.heap.size w w4.drew ∧ w4.drew.heap[wr.heap.size]? = some (.cells #[.int .i64 3, .int .i64 64] 129 (0, 0)) := ⟨I1.1, I1.2.1, I1.2.2.1, I1.2.2.2.1.drew, I1.2.2.2.2⟩
      have HDV : Hid (dval x k = cx (wd false (s32 (x k % 4294967296))) (wd false (s32 (x k / 4294967296)))) := Lib.hid rfl
      clear I1
      go_wp2
      generalize wd false (s32 (x k % 4294967296)) = X at *
      generalize wd false (s32 (x k / 4294967296)) = Y at *
      go_region_held3 (fun W => ((∃ z : Nat → Value, W.ownsRow w.heap.size 115 2 (.slice (some ⟨go, 0, none⟩) 3 3) 3 (p6 z)) ∧ W.ownsRow w.heap.size 119 1 (.slice (some ⟨gl, 0, none⟩) 3 cl) 3 (u3 fun j => if j < k then 0 else x j) ∧ W.ownsRow w.heap.size 131 2 (.slice (some ⟨ga, 0, none⟩) 3 ca) 3 (plcs 3) ∧ Below w.heap.size w W ∧ W.heap[wr.heap.size]? = some (.cells #[.int .i64 3, .int .i64 64] 129 (0, 0))) ∧ W.cell? ⟨wr.heap.size, 0, none⟩ = some (.int .i64 3) ∧ W.cell? ⟨wr.heap.size, 1, none⟩ = some (.int .i64 64) ∧ W.cell? ⟨b, off + k, none⟩ = some (.int .u64 (x k)) ∧ W.cell? ⟨go, k * 2, none⟩ = some (.int .i64 0) ∧ W.cell? ⟨go, k * 2 + 1, none⟩ = some (zc W go (k * 2 + 1)) ∧ W.frozen? ⟨go, k * 2, none⟩ = false ∧ W.frozen? ⟨go, k * 2 + 1, none⟩ = false)
        (first | (with_reducible exact HC.out _ I0) | (with_reducible assumption) | (with_reducible exact HC.out _ (HBL.out _ _ (And.left (by assumption)) hbw)) | (with_reducible exact HC.out _ (HS.out _ _ (And.left (by assumption)))))
        (first | (go_at_call 76; refine (hgt _ _).mono ?_; rintro e w_ ⟨rfl, hbw⟩))
      rename_i hK
      have HO5 : Hid (((w_.setCell ⟨go, k * 2, none⟩ (.int .i64 0)).setCell ⟨go, k * 2 + 1, none⟩ (.complex .f64 X Y)).ownsRow w.heap.size 115 2 (.slice (some ⟨go, 0, none⟩) 3 3) 3 (p6 fun j => if j < k + 1 then dval x j else cx 0 0)) := Lib.hid (by
        have h := p6_put (ownsRow_bel (W := w4.drew) O4.out hbw) hlt (.complex .f64 X Y)
        have e : (fun j => if j = k then (Value.complex .f64 X Y) else if j < k then dval x j else cx 0 0) = (fun j => if j < k + 1 then dval x j else cx 0 0) := by
          funext j
          by_cases c : j = k
          · subst c; simp [HDV.out]
          · by_cases c2 : j < k
            · simp [c, c2, Nat.lt_succ_of_lt c2]
            · have : ¬ j < k + 1 := by omega
              simp [c, c2, this]
        rw [e] at h
        exact h)
      have HL5 := Lib.hid hK.1.2.1
      have HP5 := Lib.hid hK.1.2.2.1
      have HB5 := Lib.hid hK.1.2.2.2.1
      have rp := hK.1.2.2.2.2
      clear hK HC HBL HS I0 O4 hgt HDV hbw
      generalize (w_.setCell ⟨go, k * 2, none⟩ (.int .i64 0)).setCell ⟨go, k * 2 + 1, none⟩ (.complex .f64 X Y) = w5 at *
      go_wp2
      have p1 : w5.cell? ⟨wr.heap.size, 1, none⟩ = some (.int .i64 64) := by rw [cell_of_row _ _ _ _ _ _ rp]; rfl
      have u0 := u3_at HL5.out hlt
      simp only [Nat.lt_irrefl, if_false] at u0
      have dp1 : w5.drew.cell? ⟨wr.heap.size, 1, none⟩ = some (.int .i64 64) := p1
      have du0 : w5.drew.cell? ⟨gl, k, none⟩ = some (.int .u64 (x k : Int)) := u0
      have han := andNot_all (x k) (HX.out k hlt)
      have HQ : Hid (∀ W, Below w5.drew.heap.size w5.drew W → W.cell? ⟨gl, k, none⟩ = some (.int .u64 (x k : Int)) ∧ W.frozen? ⟨gl, k, none⟩ = false) := Lib.hid fun W hb => by
        have h := ownsRow_bel (W := w5.drew) HL5.out hb
        have u := u3_at h hlt
        simp only [Nat.lt_irrefl, if_false] at u
        exact ⟨u, h.frozenAt k⟩
      clear rp
      have hwm : IntKind.u64.wrap 18446744073709551615 = 18446744073709551615 := by rw [IntKind.wrap_u64]; rfl
      go_region_law (go_simp; go_at_call 77; refine (max64 _).mono ?_; rintro e w_ ⟨rfl, hbw⟩; obtain ⟨q0, q1⟩ := HQ.out _ hbw)
      all_goals
        have HL6 : Hid ((w_.setCell ⟨gl, k, none⟩ (.int .u64 0)).ownsRow w.heap.size 119 1 (.slice (some ⟨gl, 0, none⟩) 3 cl) 3 (u3 fun j => if j < k + 1 then 0 else x j)) := Lib.hid (by
          have h := ((ownsRow_bel (W := w5.drew) HL5.out hbw).stored k (.int .u64 ((0 : Nat) : Int))).1
          rw [u3_set _ _ hlt] at h
          have e : (fun j => if j = k then 0 else if j < k then 0 else x j) = (fun j => if j < k + 1 then 0 else x j) := by
            funext j
            by_cases c : j = k
            · subst c; simp
            · by_cases c2 : j < k
              · simp [c2, Nat.lt_succ_of_lt c2]
              · have : ¬ j < k + 1 := by omega
                simp [c, c2, this]
          rw [e] at h
          exact h)
        have HO6 : Hid ((w_.setCell ⟨gl, k, none⟩ (.int .u64 0)).ownsRow w.heap.size 115 2 (.slice (some ⟨go, 0, none⟩) 3 3) 3 (p6 fun j => if j < k + 1 then dval x j else cx 0 0)) := Lib.hid (ownsRow_setCell_other (a := ⟨gl, k, none⟩) (ownsRow_bel (W := w5.drew) HO5.out hbw) (by simp [Value.ownBlock]; omega) _)
        have HP6 : Hid ((w_.setCell ⟨gl, k, none⟩ (.int .u64 0)).ownsRow w.heap.size 131 2 (.slice (some ⟨ga, 0, none⟩) 3 ca) 3 (plcs 3)) := Lib.hid (ownsRow_setCell_other (a := ⟨gl, k, none⟩) (ownsRow_bel (W := w5.drew) HP5.out hbw) (by simp [Value.ownBlock]; omega) _)
        have HB6 : Hid (Below w.heap.size w (w_.setCell ⟨gl, k, none⟩ (.int .u64 0))) := Lib.hid ((bt (W := w5.drew) HB5.out.drew hbw).setCell (by show w.heap.size ≤ gl; omega) _)
        clear HL5 HO5 HP5 HB5 HQ
        go_wp2
        go_roundw
        case rel => exact ⟨k + 1, by omega, by go_num, HO6, HL6, HP6, HB6⟩
        case measure => simp [intOf]; omega
    · obtain rfl : k = 3 := by omega
      have HL3 : Hid (wr.ownsRow w.heap.size 119 1 (.slice (some ⟨gl, 0, none⟩) 3 cl) 3 (u3 fun _ => 0)) := Lib.hid (by
        have e : (u3 fun j => if j < 3 then 0 else x j) = u3 fun _ => 0 := rfl
        rw [← e]; exact HL.out)
      have HO3 : Hid (wr.ownsRow w.heap.size 115 2 (.slice (some ⟨go, 0, none⟩) 3 3) 3 (p6 (dval x))) := Lib.hid (by
        have e : (p6 fun j => if j < 3 then dval x j else cx 0 0) = p6 (dval x) := rfl
        rw [← e]; exact HO.out)
      clear HL HO HP HW HX HR
      obtain ⟨w6, hw6⟩ : ∃ w6, w6 = wr := ⟨_, rfl⟩
      subst hw6
      go_wp2
      go_loopw [78] (fun i wr => ∃ j : Nat, j ≤ 3 ∧ i = .int .i64 j ∧ w6 = wr) (fun i _ => 3 - (intOf i).toNat)
      case atStart => exact ⟨0, by omega, rfl, rfl⟩
      case round =>
        obtain ⟨j, hj, rfl, rfl⟩ := hrel
        by_cases hlt2 : j < 3
        · have i1 : (0 : Int) ≤ (j : Int) := by omega
          have i2 : (j : Int) < 3 := by omega
          have u0 := u3_at HL3.out hlt2
          go_wp2
          go_roundw
          case rel => exact ⟨j + 1, by omega, by go_num, by first | rfl | trivial⟩
          case measure => simp [intOf]; omega
        · obtain rfl : j = 3 := by omega
          go_wp2
          go_ret2
          exact ⟨go, rfl, HO3.out, HB.out⟩
end Go.Proofs.Ytbgllbjkmjlipaa
