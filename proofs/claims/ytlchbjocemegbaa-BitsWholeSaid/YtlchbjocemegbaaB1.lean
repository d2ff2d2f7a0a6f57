/- The walk of BitsBack: true for every input. -/
import Derived.Test.YtlchbjocemegbaaV
import Derived.Test.YtlchbjocemegbaaN
import Derived.BigQuiet
namespace Go.Proofs.Ytlchbjocemegbaa
open Go.RowKit Go.Shelf
attribute [local go_sem ↓] Go.wp_at_zero Go.wp_at_succ

theorem held_drewN {w W : World} {b : Nat} {v0 v1 : Value} (h : W.cell? ⟨b, 0, none⟩ = some v0 ∧ W.cell? ⟨b, 1, none⟩ = some v1 ∧ Below w.heap.size w W ∧ b < W.heap.size ∧ w.heap.size ≤ W.heap.size) : ∀ n : Nat,
    (W.drewN n).cell? ⟨b, 0, none⟩ = some v0 ∧ (W.drewN n).cell? ⟨b, 1, none⟩ = some v1 ∧ Below w.heap.size w (W.drewN n) ∧ b < (W.drewN n).heap.size ∧ w.heap.size ≤ (W.drewN n).heap.size
  | 0 => h
  | n + 1 => held_drew (held_drewN h n)
/-- A call that answers v, whatever the world; what lay lies as it lay. -/
abbrev Says (f : FuncId) (args : Array Value) (v : Value) : Prop := ∀ w : World, Calls Try.prog f args w fun e w' => e = .returned v ∧ Below w.heap.size w w'
theorem Says.to {f : FuncId} {args : Array Value} {v v' : Value} (h : Says f args v) (e : v = v') : Says f args v' := e ▸ h

set_option maxRecDepth 100000 in
set_option maxHeartbeats 4000000 in
theorem bitsBack_YY (A L x y p q m g : Nat) (z s : Int) (h4 : A ≤ 63) (hz : IntKind.i64.wrap (y : Int) = z)
    (hMay : Says 12 #[fld A L] (.bool true)) (hMax : Says 14 #[fld A L] (.int .u64 m)) (hP : Says 21 #[fld A L, .int .u64 x, .int .u64 y] (.tuple #[.int .u64 p, .int .i64 0]))
    (hQ : Says 26 #[fld A L, .int .u64 x, .int .i64 z] (.tuple #[.int .u64 q, .int .i64 0]))
    (hGP : Says 16 #[fld A L, .int .u64 p] (.int .u64 y)) (hOP : (bits .andNot .u64 (bits .xor .u64 (p : Nat) (x : Nat)) (IntKind.u64.wrap ((m : Nat) * 2 ^ A)) != 0) = false)
    (hSQ : Says 18 #[fld A L, .int .u64 q] (.int .i64 z)) (hOQ : (bits .andNot .u64 (bits .xor .u64 (q : Nat) (x : Nat)) (IntKind.u64.wrap ((m : Nat) * 2 ^ A)) != 0) = false)
    (hG : Says 16 #[fld A L, .int .u64 x] (.int .u64 g)) (hS : Says 18 #[fld A L, .int .u64 x] (.int .i64 s))
    (hPG : Says 21 #[fld A L, .int .u64 x, .int .u64 g] (.tuple #[.int .u64 x, .int .i64 0])) (hPS : Says 26 #[fld A L, .int .u64 x, .int .i64 s] (.tuple #[.int .u64 x, .int .i64 0]))
    (hd : decide (y ≤ m) = true) (w : World) :
    Calls Try.prog 8 #[fld A L, .int .u64 x, .int .u64 y] w fun e w' => e = .returned (.bool true) ∧ Below w.heap.size w w' := by
  have ha : IntKind.u64.wrap (A : Int) = A := by rw [IntKind.wrap_u64]; omega
  have ha2 : 0 ≤ (A : Int) := by omega
  have e1 : ((x : Int) == (x : Int)) = true := by simp
  have e2 : ((y : Int) != (y : Int)) = false := by simp [bne]
  have e3 : (z != z) = false := by simp [bne]
  have e4 : ((10 : Int) == 0) = false := by decide
  go_enter Try.func8, Try.ntmps8
  have hK := keep_fld0 w (.int .i64 A) (.int .i64 L) 23
  go_wp2_with fail
  refine (hP _).mono ?_
  rintro e w1 ⟨rfl, hbw⟩
  have hK := keep_fld hK hbw
  obtain ⟨k0, k1, _⟩ := id hK
  clear hbw
  go_wp2_with fail
  refine (hMay _).mono ?_
  rintro e w1 ⟨rfl, hbw⟩
  have hK := keep_fld hK hbw
  obtain ⟨k0, k1, _⟩ := id hK
  clear hbw
  go_wp2_with fail
  refine (hMax _).mono ?_
  rintro e w1 ⟨rfl, hbw⟩
  have hK := keep_fld hK hbw
  obtain ⟨k0, k1, _⟩ := id hK
  clear hbw
  go_wp2_with fail
  go_region_held3 (fun W => W.cell? ⟨w.heap.size, 0, none⟩ = some (.int .i64 A) ∧ W.cell? ⟨w.heap.size, 1, none⟩ = some (.int .i64 L) ∧ Below w.heap.size w W ∧ w.heap.size < W.heap.size ∧ w.heap.size ≤ W.heap.size)
    (first | exact keep_fld (by assumption) hbw | exact held_drew (by assumption))
    (first
      | (go_at_call 16; refine (hGP _).mono ?_; rintro e w1 ⟨rfl, hbw⟩)
      | (go_at_call 14; refine (hMax _).mono ?_; rintro e w1 ⟨rfl, hbw⟩))
  rename_i hK
  obtain ⟨k0, k1, _⟩ := id hK
  go_wp2_with fail
  refine (hQ _).mono ?_
  rintro e w1 ⟨rfl, hbw⟩
  have hK := keep_fld hK hbw
  obtain ⟨k0, k1, _⟩ := id hK
  clear hbw
  go_wp2_with fail
  go_region_held3 (fun W => W.cell? ⟨w.heap.size, 0, none⟩ = some (.int .i64 A) ∧ W.cell? ⟨w.heap.size, 1, none⟩ = some (.int .i64 L) ∧ Below w.heap.size w W ∧ w.heap.size < W.heap.size ∧ w.heap.size ≤ W.heap.size)
    (first | exact keep_fld (by assumption) hbw | exact held_drew (by assumption))
    (first
      | (go_at_call 18; refine (hSQ _).mono ?_; rintro e w1 ⟨rfl, hbw⟩)
      | (go_at_call 14; refine (hMax _).mono ?_; rintro e w1 ⟨rfl, hbw⟩))
  rename_i hK
  obtain ⟨k0, k1, _⟩ := id hK
  go_wp2_with fail
  refine (hMay _).mono ?_
  rintro e w1 ⟨rfl, hbw⟩
  have hK := keep_fld hK hbw
  obtain ⟨k0, k1, _⟩ := id hK
  clear hbw
  go_wp2_with fail
  go_region_held3 (fun W => W.cell? ⟨w.heap.size, 0, none⟩ = some (.int .i64 A) ∧ W.cell? ⟨w.heap.size, 1, none⟩ = some (.int .i64 L) ∧ Below w.heap.size w W ∧ w.heap.size < W.heap.size ∧ w.heap.size ≤ W.heap.size)
    (first | exact keep_fld (by assumption) hbw | exact held_drew (by assumption))
    (first
      | (go_at_call 16; refine (hG _).mono ?_; rintro e w1 ⟨rfl, hbw⟩)
      | (go_at_call 21; refine (hPG _).mono ?_; rintro e w1 ⟨rfl, hbw⟩))
  rename_i hK
  obtain ⟨k0, k1, _⟩ := id hK
  go_wp2_with fail
  go_region_held3 (fun W => W.cell? ⟨w.heap.size, 0, none⟩ = some (.int .i64 A) ∧ W.cell? ⟨w.heap.size, 1, none⟩ = some (.int .i64 L) ∧ Below w.heap.size w W ∧ w.heap.size < W.heap.size ∧ w.heap.size ≤ W.heap.size)
    (first | exact keep_fld (by assumption) hbw | exact held_drew (by assumption))
    (first
      | (go_at_call 18; refine (hS _).mono ?_; rintro e w1 ⟨rfl, hbw⟩)
      | (go_at_call 26; refine (hPS _).mono ?_; rintro e w1 ⟨rfl, hbw⟩))
  rename_i hK
  obtain ⟨k0, k1, _⟩ := id hK
  go_wp2_with fail
  refine (awake_any _).mono ?_
  rintro e w1 ⟨rfl, hbw⟩
  have hK := keep_fld hK hbw
  obtain ⟨k0, k1, _⟩ := id hK
  clear hbw
  go_wp2
  go_ret
  exact ⟨rfl, hK.2.2.1⟩

set_option maxRecDepth 100000 in
set_option maxHeartbeats 4000000 in
theorem bitsBack_YN (A L x y p q m g : Nat) (z s : Int) (h4 : A ≤ 63) (hz : IntKind.i64.wrap (y : Int) = z)
    (hMay : Says 12 #[fld A L] (.bool true)) (hMax : Says 14 #[fld A L] (.int .u64 m)) (hP : Says 21 #[fld A L, .int .u64 x, .int .u64 y] (.tuple #[.int .u64 p, .int .i64 0]))
    (hQ : Says 26 #[fld A L, .int .u64 x, .int .i64 z] (.tuple #[.int .u64 q, .int .i64 10]))
    (hGP : Says 16 #[fld A L, .int .u64 p] (.int .u64 y)) (hOP : (bits .andNot .u64 (bits .xor .u64 (p : Nat) (x : Nat)) (IntKind.u64.wrap ((m : Nat) * 2 ^ A)) != 0) = false)
    (hG : Says 16 #[fld A L, .int .u64 x] (.int .u64 g)) (hS : Says 18 #[fld A L, .int .u64 x] (.int .i64 s))
    (hPG : Says 21 #[fld A L, .int .u64 x, .int .u64 g] (.tuple #[.int .u64 x, .int .i64 0])) (hPS : Says 26 #[fld A L, .int .u64 x, .int .i64 s] (.tuple #[.int .u64 x, .int .i64 0]))
    (hd : decide (y ≤ m) = true) (w : World) :
    Calls Try.prog 8 #[fld A L, .int .u64 x, .int .u64 y] w fun e w' => e = .returned (.bool true) ∧ Below w.heap.size w w' := by
  have ha : IntKind.u64.wrap (A : Int) = A := by rw [IntKind.wrap_u64]; omega
  have ha2 : 0 ≤ (A : Int) := by omega
  have e1 : ((x : Int) == (x : Int)) = true := by simp
  have e2 : ((y : Int) != (y : Int)) = false := by simp [bne]
  have e3 : (z != z) = false := by simp [bne]
  have e4 : ((10 : Int) == 0) = false := by decide
  go_enter Try.func8, Try.ntmps8
  have hK := keep_fld0 w (.int .i64 A) (.int .i64 L) 23
  go_wp2_with fail
  refine (hP _).mono ?_
  rintro e w1 ⟨rfl, hbw⟩
  have hK := keep_fld hK hbw
  obtain ⟨k0, k1, _⟩ := id hK
  clear hbw
  go_wp2_with fail
  refine (hMay _).mono ?_
  rintro e w1 ⟨rfl, hbw⟩
  have hK := keep_fld hK hbw
  obtain ⟨k0, k1, _⟩ := id hK
  clear hbw
  go_wp2_with fail
  refine (hMax _).mono ?_
  rintro e w1 ⟨rfl, hbw⟩
  have hK := keep_fld hK hbw
  obtain ⟨k0, k1, _⟩ := id hK
  clear hbw
  go_wp2_with fail
  go_region_held3 (fun W => W.cell? ⟨w.heap.size, 0, none⟩ = some (.int .i64 A) ∧ W.cell? ⟨w.heap.size, 1, none⟩ = some (.int .i64 L) ∧ Below w.heap.size w W ∧ w.heap.size < W.heap.size ∧ w.heap.size ≤ W.heap.size)
    (first | exact keep_fld (by assumption) hbw | exact held_drew (by assumption))
    (first
      | (go_at_call 16; refine (hGP _).mono ?_; rintro e w1 ⟨rfl, hbw⟩)
      | (go_at_call 14; refine (hMax _).mono ?_; rintro e w1 ⟨rfl, hbw⟩))
  rename_i hK
  obtain ⟨k0, k1, _⟩ := id hK
  go_wp2_with fail
  refine (hQ _).mono ?_
  rintro e w1 ⟨rfl, hbw⟩
  have hK := keep_fld hK hbw
  obtain ⟨k0, k1, _⟩ := id hK
  clear hbw
  go_wp2_with fail
  go_quiet (fail)
  have hK := held_drewN hK nq
  obtain ⟨k0, k1, _⟩ := id hK
  go_wp2_with fail
  refine (hMay _).mono ?_
  rintro e w1 ⟨rfl, hbw⟩
  have hK := keep_fld hK hbw
  obtain ⟨k0, k1, _⟩ := id hK
  clear hbw
  go_wp2_with fail
  go_region_held3 (fun W => W.cell? ⟨w.heap.size, 0, none⟩ = some (.int .i64 A) ∧ W.cell? ⟨w.heap.size, 1, none⟩ = some (.int .i64 L) ∧ Below w.heap.size w W ∧ w.heap.size < W.heap.size ∧ w.heap.size ≤ W.heap.size)
    (first | exact keep_fld (by assumption) hbw | exact held_drew (by assumption))
    (first
      | (go_at_call 16; refine (hG _).mono ?_; rintro e w1 ⟨rfl, hbw⟩)
      | (go_at_call 21; refine (hPG _).mono ?_; rintro e w1 ⟨rfl, hbw⟩))
  rename_i hK
  obtain ⟨k0, k1, _⟩ := id hK
  go_wp2_with fail
  go_region_held3 (fun W => W.cell? ⟨w.heap.size, 0, none⟩ = some (.int .i64 A) ∧ W.cell? ⟨w.heap.size, 1, none⟩ = some (.int .i64 L) ∧ Below w.heap.size w W ∧ w.heap.size < W.heap.size ∧ w.heap.size ≤ W.heap.size)
    (first | exact keep_fld (by assumption) hbw | exact held_drew (by assumption))
    (first
      | (go_at_call 18; refine (hS _).mono ?_; rintro e w1 ⟨rfl, hbw⟩)
      | (go_at_call 26; refine (hPS _).mono ?_; rintro e w1 ⟨rfl, hbw⟩))
  rename_i hK
  obtain ⟨k0, k1, _⟩ := id hK
  go_wp2_with fail
  refine (awake_any _).mono ?_
  rintro e w1 ⟨rfl, hbw⟩
  have hK := keep_fld hK hbw
  obtain ⟨k0, k1, _⟩ := id hK
  clear hbw
  go_wp2
  go_ret
  exact ⟨rfl, hK.2.2.1⟩

set_option maxRecDepth 100000 in
set_option maxHeartbeats 4000000 in
theorem bitsBack_NY (A L x y p q m g : Nat) (z s : Int) (h4 : A ≤ 63) (hz : IntKind.i64.wrap (y : Int) = z)
    (hMay : Says 12 #[fld A L] (.bool true)) (hMax : Says 14 #[fld A L] (.int .u64 m)) (hP : Says 21 #[fld A L, .int .u64 x, .int .u64 y] (.tuple #[.int .u64 p, .int .i64 10]))
    (hQ : Says 26 #[fld A L, .int .u64 x, .int .i64 z] (.tuple #[.int .u64 q, .int .i64 0]))
    (hSQ : Says 18 #[fld A L, .int .u64 q] (.int .i64 z)) (hOQ : (bits .andNot .u64 (bits .xor .u64 (q : Nat) (x : Nat)) (IntKind.u64.wrap ((m : Nat) * 2 ^ A)) != 0) = false)
    (hG : Says 16 #[fld A L, .int .u64 x] (.int .u64 g)) (hS : Says 18 #[fld A L, .int .u64 x] (.int .i64 s))
    (hPG : Says 21 #[fld A L, .int .u64 x, .int .u64 g] (.tuple #[.int .u64 x, .int .i64 0])) (hPS : Says 26 #[fld A L, .int .u64 x, .int .i64 s] (.tuple #[.int .u64 x, .int .i64 0]))
    (hd : decide (y ≤ m) = false) (w : World) :
    Calls Try.prog 8 #[fld A L, .int .u64 x, .int .u64 y] w fun e w' => e = .returned (.bool true) ∧ Below w.heap.size w w' := by
  have ha : IntKind.u64.wrap (A : Int) = A := by rw [IntKind.wrap_u64]; omega
  have ha2 : 0 ≤ (A : Int) := by omega
  have e1 : ((x : Int) == (x : Int)) = true := by simp
  have e2 : ((y : Int) != (y : Int)) = false := by simp [bne]
  have e3 : (z != z) = false := by simp [bne]
  have e4 : ((10 : Int) == 0) = false := by decide
  go_enter Try.func8, Try.ntmps8
  have hK := keep_fld0 w (.int .i64 A) (.int .i64 L) 23
  go_wp2_with fail
  refine (hP _).mono ?_
  rintro e w1 ⟨rfl, hbw⟩
  have hK := keep_fld hK hbw
  obtain ⟨k0, k1, _⟩ := id hK
  clear hbw
  go_wp2_with fail
  refine (hMay _).mono ?_
  rintro e w1 ⟨rfl, hbw⟩
  have hK := keep_fld hK hbw
  obtain ⟨k0, k1, _⟩ := id hK
  clear hbw
  go_wp2_with fail
  refine (hMax _).mono ?_
  rintro e w1 ⟨rfl, hbw⟩
  have hK := keep_fld hK hbw
  obtain ⟨k0, k1, _⟩ := id hK
  clear hbw
  go_wp2_with fail
  go_quiet (fail)
  have hK := held_drewN hK nq
  obtain ⟨k0, k1, _⟩ := id hK
  go_wp2_with fail
  refine (hQ _).mono ?_
  rintro e w1 ⟨rfl, hbw⟩
  have hK := keep_fld hK hbw
  obtain ⟨k0, k1, _⟩ := id hK
  clear hbw
  go_wp2_with fail
  go_region_held3 (fun W => W.cell? ⟨w.heap.size, 0, none⟩ = some (.int .i64 A) ∧ W.cell? ⟨w.heap.size, 1, none⟩ = some (.int .i64 L) ∧ Below w.heap.size w W ∧ w.heap.size < W.heap.size ∧ w.heap.size ≤ W.heap.size)
    (first | exact keep_fld (by assumption) hbw | exact held_drew (by assumption))
    (first
      | (go_at_call 18; refine (hSQ _).mono ?_; rintro e w1 ⟨rfl, hbw⟩)
      | (go_at_call 14; refine (hMax _).mono ?_; rintro e w1 ⟨rfl, hbw⟩))
  rename_i hK
  obtain ⟨k0, k1, _⟩ := id hK
  go_wp2_with fail
  refine (hMay _).mono ?_
  rintro e w1 ⟨rfl, hbw⟩
  have hK := keep_fld hK hbw
  obtain ⟨k0, k1, _⟩ := id hK
  clear hbw
  go_wp2_with fail
  go_region_held3 (fun W => W.cell? ⟨w.heap.size, 0, none⟩ = some (.int .i64 A) ∧ W.cell? ⟨w.heap.size, 1, none⟩ = some (.int .i64 L) ∧ Below w.heap.size w W ∧ w.heap.size < W.heap.size ∧ w.heap.size ≤ W.heap.size)
    (first | exact keep_fld (by assumption) hbw | exact held_drew (by assumption))
    (first
      | (go_at_call 16; refine (hG _).mono ?_; rintro e w1 ⟨rfl, hbw⟩)
      | (go_at_call 21; refine (hPG _).mono ?_; rintro e w1 ⟨rfl, hbw⟩))
  rename_i hK
  obtain ⟨k0, k1, _⟩ := id hK
  go_wp2_with fail
  go_region_held3 (fun W => W.cell? ⟨w.heap.size, 0, none⟩ = some (.int .i64 A) ∧ W.cell? ⟨w.heap.size, 1, none⟩ = some (.int .i64 L) ∧ Below w.heap.size w W ∧ w.heap.size < W.heap.size ∧ w.heap.size ≤ W.heap.size)
    (first | exact keep_fld (by assumption) hbw | exact held_drew (by assumption))
    (first
      | (go_at_call 18; refine (hS _).mono ?_; rintro e w1 ⟨rfl, hbw⟩)
      | (go_at_call 26; refine (hPS _).mono ?_; rintro e w1 ⟨rfl, hbw⟩))
  rename_i hK
  obtain ⟨k0, k1, _⟩ := id hK
  go_wp2_with fail
  refine (awake_any _).mono ?_
  rintro e w1 ⟨rfl, hbw⟩
  have hK := keep_fld hK hbw
  obtain ⟨k0, k1, _⟩ := id hK
  clear hbw
  go_wp2
  go_ret
  exact ⟨rfl, hK.2.2.1⟩

set_option maxRecDepth 100000 in
set_option maxHeartbeats 4000000 in
theorem bitsBack_NN (A L x y p q m g : Nat) (z s : Int) (h4 : A ≤ 63) (hz : IntKind.i64.wrap (y : Int) = z)
    (hMay : Says 12 #[fld A L] (.bool true)) (hMax : Says 14 #[fld A L] (.int .u64 m)) (hP : Says 21 #[fld A L, .int .u64 x, .int .u64 y] (.tuple #[.int .u64 p, .int .i64 10]))
    (hQ : Says 26 #[fld A L, .int .u64 x, .int .i64 z] (.tuple #[.int .u64 q, .int .i64 10]))
    (hG : Says 16 #[fld A L, .int .u64 x] (.int .u64 g)) (hS : Says 18 #[fld A L, .int .u64 x] (.int .i64 s))
    (hPG : Says 21 #[fld A L, .int .u64 x, .int .u64 g] (.tuple #[.int .u64 x, .int .i64 0])) (hPS : Says 26 #[fld A L, .int .u64 x, .int .i64 s] (.tuple #[.int .u64 x, .int .i64 0]))
    (hd : decide (y ≤ m) = false) (w : World) :
    Calls Try.prog 8 #[fld A L, .int .u64 x, .int .u64 y] w fun e w' => e = .returned (.bool true) ∧ Below w.heap.size w w' := by
  have ha : IntKind.u64.wrap (A : Int) = A := by rw [IntKind.wrap_u64]; omega
  have ha2 : 0 ≤ (A : Int) := by omega
  have e1 : ((x : Int) == (x : Int)) = true := by simp
  have e2 : ((y : Int) != (y : Int)) = false := by simp [bne]
  have e3 : (z != z) = false := by simp [bne]
  have e4 : ((10 : Int) == 0) = false := by decide
  go_enter Try.func8, Try.ntmps8
  have hK := keep_fld0 w (.int .i64 A) (.int .i64 L) 23
  go_wp2_with fail
  refine (hP _).mono ?_
  rintro e w1 ⟨rfl, hbw⟩
  have hK := keep_fld hK hbw
  obtain ⟨k0, k1, _⟩ := id hK
  clear hbw
  go_wp2_with fail
  refine (hMay _).mono ?_
  rintro e w1 ⟨rfl, hbw⟩
  have hK := keep_fld hK hbw
  obtain ⟨k0, k1, _⟩ := id hK
  clear hbw
  go_wp2_with fail
  refine (hMax _).mono ?_
  rintro e w1 ⟨rfl, hbw⟩
  have hK := keep_fld hK hbw
  obtain ⟨k0, k1, _⟩ := id hK
  clear hbw
  go_wp2_with fail
  go_quiet (fail)
  have hK := held_drewN hK nq
  obtain ⟨k0, k1, _⟩ := id hK
  go_wp2_with fail
  refine (hQ _).mono ?_
  rintro e w1 ⟨rfl, hbw⟩
  have hK := keep_fld hK hbw
  obtain ⟨k0, k1, _⟩ := id hK
  clear hbw
  go_wp2_with fail
  go_quiet (fail)
  have hK := held_drewN hK nq
  obtain ⟨k0, k1, _⟩ := id hK
  go_wp2_with fail
  refine (hMay _).mono ?_
  rintro e w1 ⟨rfl, hbw⟩
  have hK := keep_fld hK hbw
  obtain ⟨k0, k1, _⟩ := id hK
  clear hbw
  go_wp2_with fail
  go_region_held3 (fun W => W.cell? ⟨w.heap.size, 0, none⟩ = some (.int .i64 A) ∧ W.cell? ⟨w.heap.size, 1, none⟩ = some (.int .i64 L) ∧ Below w.heap.size w W ∧ w.heap.size < W.heap.size ∧ w.heap.size ≤ W.heap.size)
    (first | exact keep_fld (by assumption) hbw | exact held_drew (by assumption))
    (first
      | (go_at_call 16; refine (hG _).mono ?_; rintro e w1 ⟨rfl, hbw⟩)
      | (go_at_call 21; refine (hPG _).mono ?_; rintro e w1 ⟨rfl, hbw⟩))
  rename_i hK
  obtain ⟨k0, k1, _⟩ := id hK
  go_wp2_with fail
  go_region_held3 (fun W => W.cell? ⟨w.heap.size, 0, none⟩ = some (.int .i64 A) ∧ W.cell? ⟨w.heap.size, 1, none⟩ = some (.int .i64 L) ∧ Below w.heap.size w W ∧ w.heap.size < W.heap.size ∧ w.heap.size ≤ W.heap.size)
    (first | exact keep_fld (by assumption) hbw | exact held_drew (by assumption))
    (first
      | (go_at_call 18; refine (hS _).mono ?_; rintro e w1 ⟨rfl, hbw⟩)
      | (go_at_call 26; refine (hPS _).mono ?_; rintro e w1 ⟨rfl, hbw⟩))
  rename_i hK
  obtain ⟨k0, k1, _⟩ := id hK
  go_wp2_with fail
  refine (awake_any _).mono ?_
  rintro e w1 ⟨rfl, hbw⟩
  have hK := keep_fld hK hbw
  obtain ⟨k0, k1, _⟩ := id hK
  clear hbw
  go_wp2
  go_ret
  exact ⟨rfl, hK.2.2.1⟩

end Go.Proofs.Ytlchbjocemegbaa
