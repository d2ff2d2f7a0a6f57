/- Contract: the record of a pose's values. -/
import Derived.Test.YtbgllbjkmjlipaaN7
import Derived.Deep.RegionLaw
namespace Go.Proofs.Ytbgllbjkmjlipaa
open Go.RowKit
attribute [local go_sem] fmt64

theorem info119 : (Try.prog.info? 119).map (fun i => (i.zero, i.size, i.bytes)) = some (some (.int .u64 0), 1, 8) := by kernel_rfl
theorem make86 (W : World) : (Instr.makeSlice 86 (.int .i64 3) (.int .i64 3)).run Try.prog W = .ok (.slice (some ⟨W.heap.size, 0, none⟩) 3 3) (W.alloc (.cells #[.int .u64 0, .int .u64 0, .int .u64 0] 119)) := by
  obtain ⟨i0, hi, hz0, hz1, hz2⟩ := info_parts info119
  have h := run_make (P := Try.prog) W 86 119 i0 _ Try.underlying86 hi hz0 .i64 .i64 3 3 (by decide) (by decide) (by rw [hz2]; decide) (by decide)
  rw [hz1] at h
  have e : madeCells (Value.int .u64 0).cells (Int.toNat 3 * 1) = #[.int .u64 0, .int .u64 0, .int .u64 0] := by
    first | rfl | kernel_rfl | (simp [madeCells, Value.cells])
  rw [e] at h
  exact h
attribute [local go_sem] make86
/-- Three words. -/
def u3 (x : Nat → Nat) : List Value := [.int .u64 (x 0), .int .u64 (x 1), .int .u64 (x 2)]
/-- The word that lies in a cell. -/
@[irreducible] def unum (W : World) (g k : Nat) : Nat := match W.cell? ⟨g, k, none⟩ with | some (.int .u64 n) => n.toNat | _ => 0
theorem unum_of {W : World} {g k n : Nat} (h : W.cell? ⟨g, k, none⟩ = some (.int .u64 (n : Int))) : W.cell? ⟨g, k, none⟩ = some (.int .u64 (unum W g k : Nat)) := by
  unfold unum
  rw [h]
  simp
theorem u3_at {W : World} {B g c : Nat} {x : Nat → Nat} (h : W.ownsRow B 119 1 (.slice (some ⟨g, 0, none⟩) 3 c) 3 (u3 x)) {k : Nat} (hk : k < 3) : W.cell? ⟨g, k, none⟩ = some (.int .u64 (x k)) := by
  rw [h.cellAt k (by omega)]
  match k, hk with
  | 0, _ => rfl
  | 1, _ => rfl
  | 2, _ => rfl
theorem u3_set (x : Nat → Nat) (n : Nat) {k : Nat} (hk : k < 3) : (u3 x).set k (.int .u64 (n : Int)) = u3 (fun j => if j = k then n else x j) := by
  match k, hk with
  | 0, _ => rfl
  | 1, _ => rfl
  | 2, _ => rfl
theorem plcs_at {W : World} {B g c : Nat} (h : W.ownsRow B 131 2 (.slice (some ⟨g, 0, none⟩) 3 c) 3 (plcs 3)) {k : Nat} (hk : k < 3) : W.cell? ⟨g, k * 2, none⟩ = some (.int .i64 k) ∧ W.cell? ⟨g, k * 2 + 1, none⟩ = some (.int .i64 0) := by
  rw [h.cellAt _ (by omega), h.cellAt _ (by omega)]
  match k, hk with
  | 0, _ => exact ⟨rfl, rfl⟩
  | 1, _ => exact ⟨rfl, rfl⟩
  | 2, _ => exact ⟨rfl, rfl⟩
theorem own_bk {W : World} {B n size : Nat} {e : TypeId} {v : Value} {l : List Value} (hn : 1 ≤ n) (h : W.ownsRow B e size v n l) : ∃ g c, v = .slice (some ⟨g, 0, none⟩) n c ∧ B ≤ g ∧ g < W.heap.size ∧ W.ownsRow B e size (.slice (some ⟨g, 0, none⟩) n c) n l := by
  rcases h.2 with ⟨rfl, rfl⟩ | ⟨g, cap', cur, rfl, hb, hh, _⟩
  · omega
  · exact ⟨g, cap', rfl, hb, (Array.getElem?_eq_some_iff.1 hh).1, h⟩
theorem own_low {W : World} {B B' size n : Nat} {e : TypeId} {v : Value} {l : List Value} (h : W.ownsRow B e size v n l) (hb : B' ≤ B) : W.ownsRow B' e size v n l := by
  obtain ⟨h1, h2⟩ := h
  refine ⟨h1, ?_⟩
  rcases h2 with h2 | ⟨g, cap, cur, hv, hg, r⟩
  · exact .inl h2
  · exact .inr ⟨g, cap, cur, hv, Nat.le_trans hb hg, r⟩
/-- Three values. -/
def v3 (f : Nat → Int × Int) : Array Value := #[.int .i64 0, cx (wd false (f 0).1) (wd false (f 0).2), .int .i64 0, cx (wd false (f 1).1) (wd false (f 1).2), .int .i64 0, cx (wd false (f 2).1) (wd false (f 2).2)]
theorem v3_at {W : World} {g : Nat} {f : Nat → Int × Int} (h : W.heap[g]? = some (.cells (v3 f) 115 (0, 0))) {k : Nat} (hk : k < 3) : W.cell? ⟨g, k * 2, none⟩ = some (.int .i64 0) ∧ W.cell? ⟨g, k * 2 + 1, none⟩ = some (cx (wd false (f k).1) (wd false (f k).2)) := by
  rw [cell_of_row _ _ _ _ _ _ h, cell_of_row _ _ _ _ _ _ h]
  match k, hk with
  | 0, _ => exact ⟨rfl, rfl⟩
  | 1, _ => exact ⟨rfl, rfl⟩
  | 2, _ => exact ⟨rfl, rfl⟩

theorem wp_then {P : Program} {c : Code} {a : Act} {w : World} {K K2 : Act → World → Prop} {Q : Exit → Act → World → Prop} (h : c.wp P (Exit.then K2 Q) a w) (hk : ∀ a w, K2 a w → K a w) : c.wp P (Exit.then K Q) a w :=
  Code.wp_mono (fun e a w he => by cases e <;> first | exact hk _ _ he | exact he) h
set_option maxRecDepth 100000 in
set_option maxHeartbeats 4000000 in
theorem encode_rows (f : Nat → Int × Int) (hf : ∀ k, k < 3 → (f k).1.natAbs < 1048576 ∧ (f k).2.natAbs < 1048576) (g c gv cv : Nat) (w : World) (hrow : w.heap[g]? = some (.cells (reps 3) 129 (0, 0))) (hv : w.heap[gv]? = some (.cells (v3 f) 115 (0, 0))) :
    Calls Try.prog 62 #[.slice (some ⟨g, 0, none⟩) 3 c, .slice (some ⟨gv, 0, none⟩) 3 cv] w fun e w' => ∃ go, e = .returned (.tuple #[.slice (some ⟨go, 0, none⟩) 3 3, .int .i64 0]) ∧ w'.ownsRow w.heap.size 119 1 (.slice (some ⟨go, 0, none⟩) 3 3) 3 (u3 fun k => wrdF (f k).1 (f k).2) ∧ Below w.heap.size w w' := by
  have hgl := (Array.getElem?_eq_some_iff.1 hrow).1
  have hvl := (Array.getElem?_eq_some_iff.1 hv).1
  have hp := places_any g c w hrow
  have HR := Lib.hid hrow
  have HV := Lib.hid hv
  have HF := Lib.hid hf
  clear hrow hv hf
  go_enter Try.func62, Try.ntmps62
  go_wp2_with fail
  refine hp.mono ?_
  rintro e w1 ⟨va, rfl, hpl, hb⟩
  obtain ⟨ga, ca, rfl, hga, hga2, hpl⟩ := own_bk (by omega) hpl
  have P1 := Lib.hid (hpl.alloc (.cells #[.int .u64 0, .int .u64 0, .int .u64 0] 119))
  have B1 := Lib.hid (bt_alloc hb (.cells #[.int .u64 0, .int .u64 0, .int .u64 0] 119))
  have hws := hb.size
  have O1 : Hid ((w1.alloc (.cells #[.int .u64 0, .int .u64 0, .int .u64 0] 119)).ownsRow w.heap.size 119 1 (.slice (some ⟨w1.heap.size, 0, none⟩) 3 3) 3 (u3 fun _ => 0)) := Lib.hid (World.ownsRow_lit w1 #[.int .u64 0, .int .u64 0, .int .u64 0] 3 hws (by unfold maxLen; omega) rfl)
  clear hpl hb hp
  go_wp2
  obtain ⟨go, hgo⟩ : ∃ go, go = w1.heap.size := ⟨_, rfl⟩
  rw [← hgo] at O1 ⊢
  have hag : ga < go := by omega
  have hwg : w.heap.size ≤ go := by omega
  clear hgo hga2
  go_loopw [8, 31] (fun er i wr => ∃ k : Nat, k ≤ 3 ∧ i = .int .i64 k ∧ er = .int .i64 0 ∧ Hid (wr.ownsRow w.heap.size 119 1 (.slice (some ⟨go, 0, none⟩) 3 3) 3 (u3 fun j => if j < k then wrdF (f j).1 (f j).2 else 0)) ∧ Hid (wr.ownsRow w.heap.size 131 2 (.slice (some ⟨ga, 0, none⟩) 3 ca) 3 (plcs 3)) ∧ Hid (Below w.heap.size w wr)) (fun _ i _ => 3 - (intOf i).toNat)
  case atStart => exact ⟨0, by omega, rfl, rfl, O1, P1, B1⟩
  case round =>
    clear O1 P1 B1
    obtain ⟨k, hk, rfl, rfl, HO, HP, HB⟩ := hrel
    by_cases hlt : k < 3
    · have i1 : (0 : Int) ≤ (k : Int) := by omega
      have i2 : (k : Int) < 3 := by omega
      obtain ⟨c0, c1⟩ := reps_at ((HB.out.block g hgl).trans HR.out) hlt
      have fk := HF.out k hlt
      have hpt := put_pt (f k).1 (f k).2 fk.1 fk.2
      have hgow : go < wr.heap.size := (own_bk (by omega) HO.out).elim fun _ h => h.elim fun _ h => by cases h.1; exact h.2.2.1
      have rp := heap_alloc_new wr (.cells #[.int .i64 3, .int .i64 64] 129)
      have H1 := Lib.hid (HO.out.alloc (.cells #[.int .i64 3, .int .i64 64] 129))
      have HP1 := Lib.hid (HP.out.alloc (.cells #[.int .i64 3, .int .i64 64] 129))
      have HB1 := Lib.hid (bt_alloc HB.out (.cells #[.int .i64 3, .int .i64 64] 129))
      obtain ⟨z0, z1⟩ := plcs_at HP1.out hlt
      clear HO HP HB
      go_wp2
      generalize hW1 : wr.alloc (.cells #[.int .i64 3, .int .i64 64] 129) = w2 at *
      clear hW1 c0 c1 z0
      have p0 : w2.cell? ⟨wr.heap.size, 0, none⟩ = some (.int .i64 3) := by rw [cell_of_row _ _ _ _ _ _ rp]; rfl
      have p1 : w2.cell? ⟨wr.heap.size, 1, none⟩ = some (.int .i64 64) := by rw [cell_of_row _ _ _ _ _ _ rp]; rfl
      obtain ⟨v0, v1⟩ := v3_at ((HB1.out.block gv hvl).trans HV.out) hlt
      have u0 := u3_at H1.out hlt
      simp only [Nat.lt_irrefl, if_false] at u0
      have dz1 : w2.drew.cell? ⟨ga, k * 2 + 1, none⟩ = some (.int .i64 0) := z1
      have dp0 : w2.drew.cell? ⟨wr.heap.size, 0, none⟩ = some (.int .i64 3) := p0
      have dp1 : w2.drew.cell? ⟨wr.heap.size, 1, none⟩ = some (.int .i64 64) := p1
      have dv0 : w2.drew.cell? ⟨gv, k * 2, none⟩ = some (.int .i64 0) := v0
      have dv1 : w2.drew.cell? ⟨gv, k * 2 + 1, none⟩ = some (cx (wd false (f k).1) (wd false (f k).2)) := v1
      have du0 : w2.drew.cell? ⟨go, k, none⟩ = some (.int .u64 ((0 : Nat) : Int)) := u0
      have HQ : Hid (∀ W, Below w2.drew.heap.size w2.drew W → W.cell? ⟨go, k, none⟩ = some (.int .u64 ((0 : Nat) : Int)) ∧ W.frozen? ⟨go, k, none⟩ = false ∧ Hid (W.ownsRow w.heap.size 119 1 (.slice (some ⟨go, 0, none⟩) 3 3) 3 (u3 fun j => if j < k then wrdF (f j).1 (f j).2 else 0)) ∧ Hid (W.ownsRow w.heap.size 131 2 (.slice (some ⟨ga, 0, none⟩) 3 ca) 3 (plcs 3)) ∧ Hid (Below w.heap.size w W)) := Lib.hid fun W hb => by
        have h := ownsRow_bel (W := w2.drew) H1.out hb
        have u := u3_at h hlt
        simp only [Nat.lt_irrefl, if_false] at u
        exact ⟨u, h.frozenAt k, Lib.hid h, Lib.hid (ownsRow_bel (W := w2.drew) HP1.out hb), Lib.hid (bt (W := w2.drew) HB1.out.drew hb)⟩
      have hgo2 : ga ≠ go := by omega
      clear rp HP1 HB1 H1
      generalize wd false (f k).1 = X at *
      generalize wd false (f k).2 = Y at *
      generalize hwz : wrdF (f k).1 (f k).2 = wz at *
      have HWZ := Lib.hid hwz
      clear hwz fk
      obtain ⟨Q0, hQ0⟩ : ∃ Q0 : Act → World → Prop, Q0 = fun a_ W' => ∃ w_, a_ = ({ tmps := #[.slice (some ⟨g, 0, none⟩) 3 c, .slice (some ⟨gv, 0, none⟩) 3 cv, undef, undef, u4, u5, .slice (some ⟨ga, 0, none⟩) 3 ca, .int .i64 3, .int .i64 0, .slice (some ⟨go, 0, none⟩) 3 3, .int .i64 k, .pointer (some ⟨wr.heap.size, 0, none⟩), .pointer (some ⟨go, k, none⟩), .tuple #[.slice (some ⟨ga, 0, none⟩) 3 ca, .int .i64 3, .int .i64 0], .slice (some ⟨g, 0, none⟩) 3 c, .tuple #[.slice (some ⟨ga, 0, none⟩) 3 ca, .int .i64 3, .int .i64 0], .slice (some ⟨ga, 0, none⟩) 3 ca, .int .i64 3, .int .i64 0, .int .i64 0, .bool false, undef, .slice (some ⟨gv, 0, none⟩) 3 cv, .int .i64 3, .slice (some ⟨g, 0, none⟩) 3 c, .int .i64 3, .bool false, .int .i64 3, .slice (some ⟨go, 0, none⟩) 3 3, .slice (some ⟨g, 0, none⟩) 3 c, .int .i64 3, .int .i64 k, .bool true, .int .i64 k, .pointer (some ⟨g, k * 2, none⟩), .agg #[.int .i64 3, .int .i64 64], .slice (some ⟨go, 0, none⟩) 3 3, .slice (some ⟨ga, 0, none⟩) 3 ca, .int .i64 k, .pointer (some ⟨ga, k * 2, none⟩), .pointer (some ⟨ga, k * 2, none⟩), .int .i64 k, .pointer (some ⟨go, k, none⟩), .tuple #[.int .u64 wz, .int .i64 0], .pointer (some ⟨go, k, none⟩), .agg #[.int .i64 3, .int .i64 64], .pointer (some ⟨go, k, none⟩), .pointer (some ⟨go, k, none⟩), .int .u64 0, .slice (some ⟨ga, 0, none⟩) 3 ca, .int .i64 k, .pointer (some ⟨ga, k * 2, none⟩), .pointer (some ⟨ga, k * 2 + 1, none⟩), .int .i64 0, .slice (some ⟨gv, 0, none⟩) 3 cv, .int .i64 k, .pointer (some ⟨gv, k * 2, none⟩), .agg #[.int .i64 0, cx X Y], .tuple #[.int .u64 wz, .int .i64 0], .int .u64 wz, .int .i64 0, .pointer (some ⟨go, k, none⟩), u62, u63, u64, u65, undef], defers := [] } : Act) ∧ W' = w_.setCell ⟨go, k, none⟩ (.int .u64 (wz : Int)) ∧ Hid (w_.ownsRow w.heap.size 119 1 (.slice (some ⟨go, 0, none⟩) 3 3) 3 (u3 fun j => if j < k then wrdF (f j).1 (f j).2 else 0)) ∧ Hid (w_.ownsRow w.heap.size 131 2 (.slice (some ⟨ga, 0, none⟩) 3 ca) 3 (plcs 3)) ∧ Hid (Below w.heap.size w w_) := ⟨_, rfl⟩
      refine wp_then (K2 := Q0) ?reg ?imp
      case reg =>
        go_region_law (go_simp; go_at_call 74; refine (hpt _ _ _).mono ?_; rintro e w_ ⟨rfl, hbw⟩; obtain ⟨q0, q1, HOw, HPw, HBw⟩ := HQ.out _ hbw)
        all_goals (show Q0 _ _; rw [hQ0]; exact ⟨w_, rfl, rfl, HOw, HPw, HBw⟩)
      rw [hQ0]
      rintro a_ W3 ⟨w_, rfl, rfl, HOw, HPw, HBw⟩
      have HO2 : Hid ((w_.setCell ⟨go, k, none⟩ (.int .u64 (wz : Int))).ownsRow w.heap.size 119 1 (.slice (some ⟨go, 0, none⟩) 3 3) 3 (u3 fun j => if j < k + 1 then wrdF (f j).1 (f j).2 else 0)) := Lib.hid (by
        have h := (HOw.out.stored k (.int .u64 (wz : Int))).1
        rw [u3_set _ _ hlt] at h
        have e : (fun j => if j = k then wz else if j < k then wrdF (f j).1 (f j).2 else 0) = (fun j => if j < k + 1 then wrdF (f j).1 (f j).2 else 0) := by
          funext j
          by_cases c : j = k
          · subst c; simp [HWZ.out]
          · by_cases c2 : j < k
            · simp [c, c2, Nat.lt_succ_of_lt c2]
            · have : ¬ j < k + 1 := by omega
              simp [c, c2, this]
        rw [e] at h
        exact h)
      have HP2 := Lib.hid (ownsRow_setCell_other (a := ⟨go, k, none⟩) HPw.out (by simp [Value.ownBlock]; exact hgo2) (.int .u64 (wz : Int)))
      have HB2 : Hid (Below w.heap.size w (w_.setCell ⟨go, k, none⟩ (.int .u64 (wz : Int)))) := Lib.hid (HBw.out.setCell hwg _)
      clear HOw HPw HBw HQ
      go_wp2
      go_roundw
      case rel => exact ⟨k + 1, by omega, by go_num, rfl, HO2, HP2, HB2⟩
      case measure => simp [intOf]; omega
    · obtain rfl : k = 3 := by omega
      go_wp2
      go_ret2
      refine ⟨go, rfl, ?_, HB.out⟩
      have e : (u3 fun j => if j < 3 then wrdF (f j).1 (f j).2 else 0) = u3 fun k => wrdF (f k).1 (f k).2 := rfl
      rw [← e]
      exact HO.out
end Go.Proofs.Ytbgllbjkmjlipaa
