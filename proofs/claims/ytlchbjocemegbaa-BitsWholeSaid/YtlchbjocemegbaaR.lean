/- Contracts of the functions of package aileronref02 that take a field: rows of 64 bits in memory. -/
import Derived.Test.YtlchbjocemegbaaA
import Derived.Deep.WholeRow
import Derived.Deep.Draws
namespace Go.Proofs.Ytlchbjocemegbaa
open Go.RowKit

/-- A row of 64 bits, as a value. -/
def row64 (f : Nat → Bool) : Array Value := ((List.range 64).map fun k => Value.bool (f k)).toArray
theorem row64_size (f : Nat → Bool) : (row64 f).size = 64 := by simp [row64]
theorem row64_cells (f : Nat → Bool) : (row64 f).all (·.oneCell') = true := by
  unfold row64
  simp [Value.oneCell']
theorem row64_false : row64 (fun _ => false) = #[.bool false, .bool false, .bool false, .bool false, .bool false, .bool false, .bool false, .bool false, .bool false, .bool false, .bool false, .bool false, .bool false, .bool false, .bool false, .bool false, .bool false, .bool false, .bool false, .bool false, .bool false, .bool false, .bool false, .bool false, .bool false, .bool false, .bool false, .bool false, .bool false, .bool false, .bool false, .bool false, .bool false, .bool false, .bool false, .bool false, .bool false, .bool false, .bool false, .bool false, .bool false, .bool false, .bool false, .bool false, .bool false, .bool false, .bool false, .bool false, .bool false, .bool false, .bool false, .bool false, .bool false, .bool false, .bool false, .bool false, .bool false, .bool false, .bool false, .bool false, .bool false, .bool false, .bool false, .bool false] := rfl
theorem row64_congr {f g : Nat → Bool} (h : ∀ k, k < 64 → f k = g k) : row64 f = row64 g := by
  unfold row64
  congr 1
  apply List.map_congr_left
  intro k hk
  rw [h k (by simpa using hk)]

def Row (w : World) (g : Nat) (f : Nat → Bool) : Prop := w.heap[g]? = some (.cells (row64 f) 62 (0, 0))
section
variable {w w' : World} {g : Nat} {f : Nat → Bool}
theorem Row.lt (h : Row w g f) : g < w.heap.size := by
  rcases Nat.lt_or_ge g w.heap.size with hlt | hge
  · exact hlt
  · unfold Row at h; rw [Array.getElem?_eq_none hge] at h; cases h
theorem Row.cell (h : Row w g f) (i : Nat) (hi : i < 64) : w.cell? ⟨g, i, none⟩ = some (.bool (f i)) := by
  rw [cell_of_row w g i _ 62 (0, 0) h]
  simp [row64, hi]
theorem Row.frozen (h : Row w g f) (i : Nat) : w.frozen? ⟨g, i, none⟩ = false := frozen_of_row w g i _ 62 h
theorem Row.store (h : Row w g f) (i : Nat) (b : Bool) : Row (w.setCell ⟨g, i, none⟩ (.bool b)) g (fun k => if k = i then b else f k) := by
  unfold Row at h ⊢
  rw [heap_setCell_same w g i _ 62 _ h]
  congr 2
  apply Array.ext_getElem?
  intro j
  rw [Array.getElem?_setIfInBounds]
  unfold row64
  by_cases c : i = j
  · subst c
    by_cases c2 : i < 64
    · simp [c2]
    · simp [c2]
  · have c' : ¬ j = i := fun e => c e.symm
    by_cases c2 : j < 64
    · simp [c, c', c2]
    · simp [c, c2]
theorem Row.far (h : Row w g f) {p : Addr} (hp : g ≠ p.block) (u : Value) : Row (w.setCell p u) g f := (Below.heap_setCell w p u g hp).trans h
theorem Row.below {B : Nat} (h : Row w g f) (hb : Below B w w') (hg : g < B) : Row w' g f := (hb.block g hg).trans h
theorem Row.alloc (h : Row w g f) (o : Obj) : Row (w.alloc o) g f := (Below.heap_alloc w o g h.lt).trans h
theorem Row.drew (h : Row w g f) : Row w.drew g f := h
theorem Row.set (h : Row w g f) (f' : Nat → Bool) : Row (w.setRow g (row64 f')) g f' := setRow_heap w g _ _ 62 (0, 0) h
theorem Row.setFar (h : Row w g f) {g' : Nat} (hne : g ≠ g') (cs : Array Value) : Row (w.setRow g' cs) g f := (setRow_other w g' g cs hne).trans h
theorem below_setRow {B : Nat} {a w : World} (h : Below B a w) {g : Nat} (hg : B ≤ g) (cs : Array Value) : Below B a (w.setRow g cs) :=
  h.trans ⟨rfl, rfl, rfl, by simp, fun k hk => setRow_other w g k cs (by omega)⟩
theorem Row.congr {f' : Nat → Bool} (h : Row w g f) (e : ∀ k, k < 64 → f k = f' k) : Row w g f' := by
  unfold Row at *; rw [← row64_congr e]; exact h
theorem Row.new (w : World) (f : Nat → Bool) : Row (w.alloc (.cells (row64 f) 62)) w.heap.size f := heap_alloc_new w _
theorem Row.zero (w : World) {n : Nat} (h : w.heap.size = n) : Row (w.alloc (.cells #[.bool false, .bool false, .bool false, .bool false, .bool false, .bool false, .bool false, .bool false, .bool false, .bool false, .bool false, .bool false, .bool false, .bool false, .bool false, .bool false, .bool false, .bool false, .bool false, .bool false, .bool false, .bool false, .bool false, .bool false, .bool false, .bool false, .bool false, .bool false, .bool false, .bool false, .bool false, .bool false, .bool false, .bool false, .bool false, .bool false, .bool false, .bool false, .bool false, .bool false, .bool false, .bool false, .bool false, .bool false, .bool false, .bool false, .bool false, .bool false, .bool false, .bool false, .bool false, .bool false, .bool false, .bool false, .bool false, .bool false, .bool false, .bool false, .bool false, .bool false, .bool false, .bool false, .bool false, .bool false] 62)) n (fun _ => false) := by subst h; exact Row.new w (fun _ => false)
theorem info62 : (Try.prog.info? 62).map (·.size) = some 64 := by kernel_rfl
theorem info62' (f : Nat → Bool) : (Try.prog.info? 62).map (·.size) = some (row64 f).size := by rw [row64_size]; exact info62
end

theorem bit_step {x k y : Nat} (h : y = x / 2 ^ k) : ((y : Int) % 2 == 1) = x.testBit k := by
  rw [Nat.testBit_eq_decide_div_mod_eq, ← h]
  rw [Bool.eq_iff_iff, beq_iff_eq, decide_eq_true_eq]
  omega
theorem halve {x k y : Nat} (h : y = x / 2 ^ k) : y / 2 = x / 2 ^ (k + 1) := by
  rw [Nat.pow_succ, ← Nat.div_div_eq_div_mul, h]
theorem upto_bit (x k : Nat) (j : Nat) (_ : j < 64) : (if j = k then x.testBit k else (decide (j < k) && x.testBit j)) = (decide (j < k + 1) && x.testBit j) := by
  by_cases c : j = k
  · subst c; simp
  · rw [if_neg c]
    by_cases c2 : j < k
    · have : j < k + 1 := by omega
      simp [c2, this]
    · have : ¬ j < k + 1 := by omega
      simp [c2, this]
theorem upto_all {x k : Nat} (h : ¬ k < 64) (j : Nat) (hj : j < 64) : (decide (j < k) && x.testBit j) = x.testBit j := by
  have : j < k := by omega
  simp [this]

set_option maxHeartbeats 400000 in
theorem rbits_any (x : Nat) (hx : x < 18446744073709551616) (w : World) :
    Calls Try.prog 34 #[.int .u64 x] w fun e w' => e = .returned (.agg (row64 x.testBit)) ∧ Below w.heap.size w w' := by
  go_enter Try.func34, Try.ntmps34
  go_wp2
  go_loopw [0, 4] (fun v i wr => ∃ k y : Nat, k ≤ 64 ∧ y < 18446744073709551616 ∧ i = .int .i64 k ∧ v = .int .u64 y ∧ Hid (y = x / 2 ^ k) ∧ Hid (Row wr w.heap.size (fun _ => false)) ∧ Hid (Row wr (w.heap.size + 1) (fun j => decide (j < k) && x.testBit j)) ∧ Below w.heap.size w wr) (fun _ i _ => 64 - (intOf i).toNat)
  case atStart =>
    exact ⟨0, x, by omega, hx, rfl, rfl, by simp [Hid], heap_alloc2_old w _ _, (heap_alloc2_new w _ _), ((Below.refl _ _).alloc (Nat.le_refl _) _).alloc (by simp) _⟩
  case round =>
    obtain ⟨k, y, hk, hy, rfl, rfl, HY, H0, H1, hb⟩ := hrel
    by_cases hlt : k < 64
    · have hc := H1.out.cell k hlt
      have hf := H1.out.frozen k
      have hs := bit_step HY.out
      go_wp2
      go_roundw
      case rel => exact ⟨k + 1, y / 2, by omega, by omega, by go_num, by go_num, halve HY.out, H0.out.far (by simp) _, (H1.out.store k _).congr (upto_bit x k), hb.setCell (by simp) _⟩
      case measure => simp [intOf]; omega
    · have hlt' : decide ((k : Int) < 64) = false := by simp <;> omega
      go_wp2_with (first
        | (refine wpList_load_row rfl 62 _ rfl (w.heap.size + 1) rfl 62 _ (0, 0) _ H1.out Try.underlying62 rfl (info62' _) ?_)
        | (refine wpList_store_row rfl 62 _ _ rfl w.heap.size _ rfl rfl 62 _ H0.out (info62' _) (by rw [row64_size, row64_size]) (row64_cells _) ?_))
      refine bodyPost_ret (results_cell_row rfl _ _ w.heap.size 62 _ (0, 0) _ rfl (H0.out.set _) Try.underlying62 rfl (info62' _)) rfl ⟨?_, below_setRow hb (Nat.le_refl _) _⟩
      rw [row64_congr (upto_all hlt)]

theorem word_step {f : Nat → Bool} {m y : Nat} (h : y * 2 ^ (m + 1) + wordOf f (m + 1) = wordOf f 64) : (2 * y + (f m).toNat) * 2 ^ m + wordOf f m = wordOf f 64 := by
  rw [← h, wordOf, Nat.pow_succ, Nat.add_mul, Nat.mul_comm 2 y, Nat.mul_assoc, Nat.mul_comm 2 (2 ^ m)]
  omega
theorem word_done {f : Nat → Bool} {y W : Nat} (h : y * 2 ^ 0 + wordOf f 0 = W) : y = W := by rw [← h, wordOf, Nat.pow_zero]; omega
theorem word_bd {f : Nat → Bool} {m y : Nat} (h : y * 2 ^ m + wordOf f m = wordOf f 64) : y < 18446744073709551616 := by
  have h1 : wordOf f 64 < 2 ^ 64 := wordOf_lt f 64
  have h2 : y * 1 ≤ y * 2 ^ m := Nat.mul_le_mul_left _ (Nat.two_pow_pos m)
  omega

set_option maxHeartbeats 400000 in
theorem rword_any (f : Nat → Bool) (w : World) :
    Calls Try.prog 33 #[.agg (row64 f)] w fun e w' => e = .returned (.int .u64 (wordOf f 64)) ∧ Below w.heap.size w w' := by
  have hR := Lib.hid (Row.new w f)
  have hB : Below w.heap.size w (w.alloc (.cells (row64 f) 62)) := (Below.refl _ _).alloc (Nat.le_refl _) _
  go_enter Try.func33, Try.ntmps33
  go_wp2
  go_loop [3, 4] (fun v i => ∃ (n y : Nat) (z : Int), n ≤ 64 ∧ z + 1 = n ∧ i = .int .i64 z ∧ v = .int .u64 y ∧ Hid (y * 2 ^ n + wordOf f n = wordOf f 64)) (fun _ i => (intOf i + 1).toNat)
  case atStart => exact ⟨64, 0, 63, by omega, by omega, rfl, rfl, by simp [Hid]⟩
  case round =>
    obtain ⟨n, y, z, hn, hz, rfl, rfl, HY⟩ := hrel
    have hy := word_bd HY.out
    cases n with
    | zero =>
      have HZ := Lib.hid hz
      have hd : decide (0 ≤ z) = false := by simp <;> omega
      clear hz
      go_wp2
      go_ret
      exact ⟨ret_int (by rw [word_done HY.out]), hB⟩
    | succ m =>
      obtain rfl : z = (m : Int) := by omega
      clear hz
      have hc := hR.out.cell m (by omega)
      have HS := Lib.hid (word_step HY.out)
      have hs := word_bd HS.out
      cases hfm : f m with
      | true =>
        rw [hfm] at hc HS hs
        simp only [Bool.toNat_true] at hs
        go_wp2
        go_round
        case rel => exact ⟨m, 2 * y + 1, (m : Int) - 1, by omega, by omega, by go_num, by go_num, HS⟩
        case measure => simp [intOf] <;> omega
      | false =>
        rw [hfm] at hc HS hs
        simp only [Bool.toNat_false] at hs
        go_wp2
        go_round
        case rel => exact ⟨m, 2 * y, (m : Int) - 1, by omega, by omega, by go_num, by go_num, HS⟩
        case measure => simp [intOf] <;> omega

/-- A field's value in a block of its own. -/
def Box (w : World) (b : Nat) (a l : Int) : Prop := w.heap[b]? = some (.cells #[.int .i64 a, .int .i64 l] 25 (0, 0))
section
variable {w w' : World} {b : Nat} {a l : Int}
theorem Box.new (w : World) (a l : Int) : Box (w.alloc (.cells #[.int .i64 a, .int .i64 l] 25)) w.heap.size a l := heap_alloc_new w _
theorem Box.lt (h : Box w b a l) : b < w.heap.size := by
  rcases Nat.lt_or_ge b w.heap.size with hlt | hge
  · exact hlt
  · unfold Box at h; rw [Array.getElem?_eq_none hge] at h; cases h
theorem Box.at_ (h : Box w b a l) : w.cell? ⟨b, 0, none⟩ = some (.int .i64 a) := by rw [cell_of_row w b 0 _ 25 (0, 0) h]; rfl
theorem Box.len (h : Box w b a l) : w.cell? ⟨b, 1, none⟩ = some (.int .i64 l) := by rw [cell_of_row w b 1 _ 25 (0, 0) h]; rfl
theorem Box.alloc (h : Box w b a l) (o : Obj) : Box (w.alloc o) b a l := (Below.heap_alloc w o b h.lt).trans h
theorem Box.drew (h : Box w b a l) : Box w.drew b a l := h
theorem Box.far (h : Box w b a l) {p : Addr} (hp : b ≠ p.block) (u : Value) : Box (w.setCell p u) b a l := (Below.heap_setCell w p u b hp).trans h
theorem Box.below {B : Nat} (h : Box w b a l) (hb : Below B w w') (hg : b < B) : Box w' b a l := (hb.block b hg).trans h
end

theorem maxrow_bit (k : Nat) (j : Nat) (_ : j < 64) : (if j = k then true else decide (j < k)) = decide (j < k + 1) := by
  by_cases c : j = k
  · subst c; simp
  · rw [if_neg c, Bool.eq_iff_iff]; simp; omega

set_option maxHeartbeats 400000 in
theorem rmax_any (a l : Int) (w : World) :
    Calls Try.prog 15 #[fld a l] w fun e w' => e = .returned (.int .u64 (maxF a l)) ∧ Below w.heap.size w w' := by
  cases hm : mayB a l with
  | false =>
    go_enter Try.func15, Try.ntmps15
    go_wp2_with (go_at_call 13; refine (rmay_any _ _ _).mono ?_; rintro e w' ⟨rfl, rfl⟩)
    go_ret
    exact ⟨ret_int (by simp [maxF, hm]), ((Below.refl _ _).alloc (Nat.le_refl _) _).alloc (by simp) _⟩
  | true =>
    obtain ⟨A, L, rfl, rfl, h1, h2, h3, h4⟩ := may_of hm
    have HX := Lib.hid ((Box.new w A L).alloc (.cells #[.int .i64 A, .int .i64 L] 25))
    go_enter Try.func15, Try.ntmps15
    go_wp2_with (go_at_call 13; refine (rmay_any _ _ _).mono ?_; rintro e w' ⟨rfl, rfl⟩)
    go_loopw [4] (fun i wr => ∃ k : Nat, k ≤ L ∧ i = .int .i64 k ∧ Hid (Box wr w.heap.size A L) ∧ Hid (Row wr (w.heap.size + 2) (fun j => decide (j < k))) ∧ Below w.heap.size w wr) (fun i _ => L - (intOf i).toNat)
    case atStart =>
      exact ⟨0, by omega, rfl, HX.out.alloc _, (Row.zero _ (by simp)).congr (by simp), (((Below.refl _ _).alloc (Nat.le_refl _) _).alloc (by simp) _).alloc (by simp <;> omega) _⟩
    case round =>
      clear HX
      obtain ⟨k, hk, rfl, HX, HR, hb⟩ := hrel
      have hl := HX.out.len
      by_cases hlt : k < L
      · have hc := HR.out.cell k (by omega)
        have hf := HR.out.frozen k
        go_wp2
        go_roundw
        case rel => exact ⟨k + 1, by omega, by go_num, HX.out.far (by simp <;> omega) _, (HR.out.store k _).congr (maxrow_bit k), hb.setCell (by simp <;> omega) _⟩
        case measure => simp [intOf]; omega
      · obtain rfl : L = k := by omega
        go_wp2_with (first
          | (refine wpList_load_row rfl 62 _ rfl (w.heap.size + 2) rfl 62 _ (0, 0) _ HR.out Try.underlying62 rfl (info62' _) ?_)
          | (go_at_call 33; refine (rword_any _ _).mono ?_; rintro e w' ⟨rfl, hb2⟩))
        go_ret
        exact ⟨ret_int (by simp only [maxF, hm, if_pos, Int.toNat_natCast]; rfl), hb.trans (hb2.mono hb.size)⟩
end Go.Proofs.Ytlchbjocemegbaa
