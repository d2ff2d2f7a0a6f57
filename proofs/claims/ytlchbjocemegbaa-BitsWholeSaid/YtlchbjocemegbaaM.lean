/- The helpers of the statements: plain, few, words, awake. -/
import Derived.Test.YtlchbjocemegbaaL
namespace Go.Proofs.Ytlchbjocemegbaa
open Go.RowKit Go.Shelf
attribute [local go_sem ↓] Go.wp_at_zero Go.wp_at_succ

set_option maxHeartbeats 400000 in
theorem plain_any (a l : Int) (w : World) :
    Calls Try.prog 11 #[fld a l] w fun e w' => e = .returned (fld a l) ∧ Below w.heap.size w w' := by
  go_enter Try.func11, Try.ntmps11
  go_wp2
  refine bodyPost_ret (results_cell_row rfl _ _ (w.heap.size + 1) 25 #[.int .i64 a, .int .i64 l] (0, 0) _ rfl ?_ Try.underlying25 rfl (by kernel_rfl)) rfl ⟨rfl, ?_⟩
  · have := heap_alloc_new (w.alloc (.cells #[.int .i64 a, .int .i64 l] 23)) (.cells #[.int .i64 a, .int .i64 l] 25)
    simpa using this
  · exact ((Below.refl _ _).alloc (Nat.le_refl _) _).alloc (by simp) _

theorem few_any (A : Option Addr) (n cap : Nat) (w : World) :
    Calls Try.prog 23 #[.slice A n cap] w fun e w' => e = .returned (.bool (decide ((n : Int) ≤ 80))) ∧ w = w' := by
  go_enter Try.func23, Try.ntmps23
  go_wp2
  go_ret
  exact ⟨rfl, rfl⟩

set_option maxRecDepth 100000 in
set_option maxHeartbeats 1000000 in
theorem words_any (A X : Option Addr) (cap cx : Nat) (xs : List Nat) (hn : xs.length ≤ 9223372036854775807) (w : World) (hA : Wrds w w.heap.size A xs.length xs) (hX : Wrds w w.heap.size X xs.length xs) :
    Calls Try.prog 32 #[.slice A xs.length cap, .slice X xs.length cx] w fun e w' => e = .returned (.bool true) ∧ Below w.heap.size w w' := by
  have hl : ((xs.length : Int) != (xs.length : Int)) = false := by simp [bne]
  have HA := Lib.hid hA
  have HX := Lib.hid hX
  clear hA hX
  go_enter Try.func32, Try.ntmps32
  go_wp2_with fail
  go_loopw [5] (fun i wr => ∃ k : Nat, k ≤ xs.length ∧ i = .int .i64 k ∧ Below w.heap.size w wr) (fun i _ => xs.length - (intOf i).toNat)
  case atStart => exact ⟨0, by omega, rfl, Below.refl _ _⟩
  case round =>
    obtain ⟨k, hk, rfl, hb⟩ := hrel
    by_cases hlt : k < xs.length
    · obtain ⟨g, o, rfl, hg, hc⟩ := HA.out.2 k hlt
      obtain ⟨g2, o2, rfl, hg2, hc2⟩ := HX.out.2 k hlt
      have hc' := (hb.cell (p := ⟨g, o + k, none⟩) hg).trans hc
      have hc2' := (hb.cell (p := ⟨g2, o2 + k, none⟩) hg2).trans hc2
      clear hc hc2
      generalize xs[k]?.getD 0 = y at hc' hc2'
      have hy : ((y : Int) != (y : Int)) = false := by simp [bne]
      have hd : decide ((k : Int) < (xs.length : Int)) = true := by simp; omega
      go_wp2_with fail
      go_region_held3 (fun w' => w'.cell? ⟨g, o + k, none⟩ = some (.int .u64 y) ∧ w'.cell? ⟨g2, o2 + k, none⟩ = some (.int .u64 y)) (go_keep) (fail)
      go_wp2
      go_roundw
      case rel => exact ⟨k + 1, by omega, by go_num, hb.drew⟩
      case measure => simp [intOf]; omega
    · obtain rfl : k = xs.length := by omega
      have hd : decide (xs.length < xs.length) = false := by simp
      go_wp2
      go_ret
      exact ⟨rfl, hb⟩

/-! ### The chapter's examples -/
theorem ex_put : setF 4 3 0 5 = 80 := by kernel_rfl
theorem ex_may : mayB 4 3 = true := by kernel_rfl
theorem ex_max : maxF 4 3 = 7 := by kernel_rfl
theorem ex_get : getF 4 3 43981 = 4 := by kernel_rfl
theorem ex_sgn : sgnF 4 3 112 = -1 := by kernel_rfl
theorem ex_row : (rowGo 0 [3, 1, 60]).2 = 0 := by kernel_rfl
theorem ex_fields : fieldsOf [3, 1, 60] = [(0, 3), (3, 1), (4, 60)] := by kernel_rfl
theorem ex_join : joinF [3, 1, 60] [4, 1, 2] = (44, 0) := by kernel_rfl

theorem nums_new3 (w : World) (a b c : Int) : Nums (w.alloc (.cells #[.int .i64 a, .int .i64 b, .int .i64 c] 3)) (w.alloc (.cells #[.int .i64 a, .int .i64 b, .int .i64 c] 3)).heap.size (some ⟨w.heap.size, 0, none⟩) 3 [a, b, c] := by
  refine ⟨rfl, fun k hk => ⟨w.heap.size, 0, rfl, by simp, ?_⟩⟩
  rw [cell_of_row _ _ _ _ _ _ (heap_alloc_new w _)]
  match k, hk with
  | 0, _ => rfl
  | 1, _ => rfl
  | 2, _ => rfl
theorem wrds_new3 (w : World) (a b c : Nat) : Wrds (w.alloc (.cells #[.int .u64 a, .int .u64 b, .int .u64 c] 24)) (w.alloc (.cells #[.int .u64 a, .int .u64 b, .int .u64 c] 24)).heap.size (some ⟨w.heap.size, 0, none⟩) 3 [a, b, c] := by
  refine ⟨rfl, fun k hk => ⟨w.heap.size, 0, rfl, by simp, ?_⟩⟩
  rw [cell_of_row _ _ _ _ _ _ (heap_alloc_new w _)]
  match k, hk with
  | 0, _ => rfl
  | 1, _ => rfl
  | 2, _ => rfl

def Five (w : World) (b g : Nat) (v0 v1 v2 v3 v4 : Value) (W : World) : Prop :=
  W.cell? ⟨b, 0, none⟩ = some v0 ∧ W.cell? ⟨b, 1, none⟩ = some v1 ∧ W.cell? ⟨g, 0, none⟩ = some v2 ∧ W.cell? ⟨g, 2, none⟩ = some v3 ∧ W.cell? ⟨g, 4, none⟩ = some v4 ∧ Below w.heap.size w W ∧ b < W.heap.size ∧ g < W.heap.size ∧ w.heap.size ≤ W.heap.size
theorem keep5 {w W W' : World} {b g : Nat} {v0 v1 v2 v3 v4 : Value} {B : Nat} (h : Five w b g v0 v1 v2 v3 v4 W) (hb : Below B W W') (hB : W.heap.size ≤ B) : Five w b g v0 v1 v2 v3 v4 W' := by
  obtain ⟨h0, h1, h2, h3, h4, h5, h6, h7, h8⟩ := h
  have := hb.mono hB
  have hs := this.size
  exact ⟨(this.cell (p := ⟨b, 0, none⟩) h6).trans h0, (this.cell (p := ⟨b, 1, none⟩) h6).trans h1, (this.cell (p := ⟨g, 0, none⟩) h7).trans h2, (this.cell (p := ⟨g, 2, none⟩) h7).trans h3, (this.cell (p := ⟨g, 4, none⟩) h7).trans h4, h5.trans (this.mono h8), by omega, by omega, by omega⟩
theorem keep5_alloc {w W : World} {b g : Nat} {v0 v1 v2 v3 v4 : Value} (h : Five w b g v0 v1 v2 v3 v4 W) (o : Obj) : Five w b g v0 v1 v2 v3 v4 (W.alloc o) := keep5 h ((Below.refl _ _).alloc (Nat.le_refl _) o) (Nat.le_refl _)

set_option maxRecDepth 100000 in
set_option maxHeartbeats 1000000 in
theorem awake_any (w : World) : Calls Try.prog 20 #[] w fun e w' => e = .returned (.bool true) ∧ Below w.heap.size w w' := by
  have hp := put_yes 4 3 0 5 (by decide) ex_may (by rw [ex_max]; decide)
  rw [ex_put] at hp
  have hx := max_any 4 3
  rw [ex_max] at hx
  have hgt := get_any 4 3 43981 (by decide)
  rw [ex_get] at hgt
  have hs := signed_any 4 3 112
  rw [ex_sgn] at hs
  go_enter Try.func20, Try.ntmps20
  go_wp2_with fail
  refine (hp _).mono ?_
  rintro e w1 ⟨rfl, hb1⟩
  obtain ⟨hc1, hf1⟩ := bcell hb1
  go_wp2_with fail
  refine (row_fields _ 3 3 [3, 1, 60] (by decide) _ (nums_new3 _ 3 1 60)).mono ?_
  rintro e w2 ⟨v, he, hown, hb2⟩
  rw [ex_row] at he
  subst he
  obtain ⟨_, A1, cap1, hv, hcell⟩ := flds_of_own hown
  rw [ex_fields] at hv hcell
  subst hv
  obtain ⟨g, rfl, hg, q0, _⟩ := hcell 0 (by decide)
  obtain ⟨g', e', _, q1, _⟩ := hcell 1 (by decide)
  obtain rfl : g = g' := by simpa using e'
  obtain ⟨g', e', _, q2, _⟩ := hcell 2 (by decide)
  obtain rfl : g = g' := by simpa using e'
  replace q0 : w2.cell? ⟨g, 0, none⟩ = some (.int .i64 0) := q0
  replace q1 : w2.cell? ⟨g, 2, none⟩ = some (.int .i64 3) := q1
  replace q2 : w2.cell? ⟨g, 4, none⟩ = some (.int .i64 4) := q2
  have F2 : Five w w.heap.size g (.int .i64 4) (.int .i64 3) (.int .i64 0) (.int .i64 3) (.int .i64 4) w2 := by
    obtain ⟨k0, k1, kb, k3, k4⟩ := keep_fld0 w (.int .i64 4) (.int .i64 3) 23
    have K := keep_fld (keep_fld ⟨k0, k1, kb, k3, k4⟩ hb1) ((Below.refl _ _).alloc (Nat.le_refl _) (Obj.cells #[Value.int IntKind.i64 3, Value.int IntKind.i64 1, Value.int IntKind.i64 60] 3))
    have K := keep_fld K hb2
    exact ⟨K.1, K.2.1, q0, q1, q2, K.2.2.1, K.2.2.2.1, hg, K.2.2.2.2⟩
  clear hcell hown e' hb2 q0 q1 q2
  have F2a := keep5_alloc F2 (Obj.cells #[Value.int IntKind.i64 3, Value.int IntKind.i64 1, Value.int IntKind.i64 60] 3)
  have F2b := keep5_alloc F2a (Obj.cells #[Value.int IntKind.u64 (4 : Nat), Value.int IntKind.u64 (1 : Nat), Value.int IntKind.u64 (2 : Nat)] 24)
  go_wp2_with fail
  refine (join_any _ _ 3 3 3 3 [3, 1, 60] [4, 1, 2] (by decide) (by decide) (by decide) _ ?_ ?_).mono ?_
  · exact ((nums_new3 w2 3 1 60).below ((Below.refl _ _).alloc (Nat.le_refl _) _)).more (by simp <;> omega)
  · have := wrds_new3 (w2.alloc (.cells #[.int .i64 3, .int .i64 1, .int .i64 60] 3)) 4 1 2
    simpa using this
  rintro e w3 ⟨he, hb3⟩
  rw [ex_join] at he
  subst he
  have F3 := keep5 F2b hb3 (by simp <;> omega)
  clear hb3 F2a F2b F2
  obtain ⟨a0, a1, a2, a3, a4, _⟩ := id F3
  go_wp2_with (first
    | (go_at_call 14; refine (hx _).mono ?_; rintro e w4 ⟨rfl, hb4⟩; have F4 := keep5 F3 hb4 (Nat.le_refl _); obtain ⟨b0, b1, b2, b3, b4, _⟩ := id F4)
    | (go_at_call 16; refine (hgt _).mono ?_; rintro e w5 ⟨rfl, hb5⟩; have F5 := keep5 F4 hb5 (Nat.le_refl _); obtain ⟨c0, c1, c2, c3, c4, _⟩ := id F5)
    | (go_at_call 18; refine (hs _).mono ?_; rintro e w6 ⟨rfl, hb6⟩; have F6 := keep5 F5 hb6 (Nat.le_refl _); obtain ⟨d0, d1, d2, d3, d4, _⟩ := id F6))
  go_ret
  exact ⟨rfl, F6.2.2.2.2.2.1⟩
end Go.Proofs.Ytlchbjocemegbaa
