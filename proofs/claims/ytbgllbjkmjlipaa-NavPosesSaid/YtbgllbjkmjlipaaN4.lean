/- Contracts: the document's Number; halves, entries, point, put, get. -/
import Derived.Test.YtbgllbjkmjlipaaN3
namespace Go.Proofs.Ytbgllbjkmjlipaa
open Go.RowKit
attribute [local go_sem] fmt64

theorem number_any (x : Nat) (hx : x < 18446744073709551616) (w : World) : Calls Try.prog 66 #[.int .u64 x] w fun e w' => e = .returned (zz (s32 (x % 4294967296)) (s32 (x / 4294967296))) ∧ Below w.heap.size w w' := by
  have q1 : (x : Int).tmod 4294967296 = ((x % 4294967296 : Nat) : Int) := by rw [Int.tmod_eq_emod_of_nonneg (by omega)]; omega
  have q2 : (x : Int).tdiv 4294967296 = ((x / 4294967296 : Nat) : Int) := by rw [Int.tdiv_eq_ediv_of_nonneg (by omega)]; omega
  have h1 : x % 4294967296 < 4294967296 := Nat.mod_lt _ (by omega)
  have h2 : x / 4294967296 < 4294967296 := by omega
  generalize x % 4294967296 = a at *
  generalize x / 4294967296 = b at *
  have q3 : IntKind.u64.wrap (a : Int) = a := by rw [IntKind.wrap_u64]; omega
  have q4 : IntKind.u64.wrap (b : Int) = b := by rw [IntKind.wrap_u64]; omega
  have q5 : IntKind.i64.wrap (a : Int) = a := IntWalk.i64_in _ (by omega)
  have q6 : IntKind.i64.wrap (b : Int) = b := IntWalk.i64_in _ (by omega)
  have q7 : IntKind.i64.wrap ((a : Int) - 4294967296) = (a : Int) - 4294967296 := IntWalk.i64_in _ (by omega)
  have q8 : IntKind.i64.wrap ((b : Int) - 4294967296) = (b : Int) - 4294967296 := IntWalk.i64_in _ (by omega)
  unfold s32
  by_cases c1 : 2147483648 ≤ a
  · rw [if_pos c1]
    have d1 : decide ((a : Int) ≥ 2147483648) = true := by simp; omega
    by_cases c2 : 2147483648 ≤ b
    · rw [if_pos c2]
      have d2 : decide ((b : Int) ≥ 2147483648) = true := by simp; omega
      clear c1 c2 h1 h2
      go_enter Try.func66, Try.ntmps66
      go_wp2
      refine bodyPost_ret (results_cell_row rfl _ _ w.heap.size 39 #[.int .i64 ((a : Int) - 4294967296), .int .i64 ((b : Int) - 4294967296)] (0, 0) _ rfl (heap_alloc_new _ _) Try.underlying39 rfl (by kernel_rfl)) rfl ⟨rfl, (Below.refl _ _).alloc (Nat.le_refl _) _⟩
    · rw [if_neg c2]
      have d2 : decide ((b : Int) ≥ 2147483648) = false := by simp; omega
      clear c1 c2 h1 h2
      go_enter Try.func66, Try.ntmps66
      go_wp2
      refine bodyPost_ret (results_cell_row rfl _ _ w.heap.size 39 #[.int .i64 ((a : Int) - 4294967296), .int .i64 b] (0, 0) _ rfl (heap_alloc_new _ _) Try.underlying39 rfl (by kernel_rfl)) rfl ⟨rfl, (Below.refl _ _).alloc (Nat.le_refl _) _⟩
  · rw [if_neg c1]
    have d1 : decide ((a : Int) ≥ 2147483648) = false := by simp; omega
    by_cases c2 : 2147483648 ≤ b
    · rw [if_pos c2]
      have d2 : decide ((b : Int) ≥ 2147483648) = true := by simp; omega
      clear c1 c2 h1 h2
      go_enter Try.func66, Try.ntmps66
      go_wp2
      refine bodyPost_ret (results_cell_row rfl _ _ w.heap.size 39 #[.int .i64 a, .int .i64 ((b : Int) - 4294967296)] (0, 0) _ rfl (heap_alloc_new _ _) Try.underlying39 rfl (by kernel_rfl)) rfl ⟨rfl, (Below.refl _ _).alloc (Nat.le_refl _) _⟩
    · rw [if_neg c2]
      have d2 : decide ((b : Int) ≥ 2147483648) = false := by simp; omega
      clear c1 c2 h1 h2
      go_enter Try.func66, Try.ntmps66
      go_wp2
      refine bodyPost_ret (results_cell_row rfl _ _ w.heap.size 39 #[.int .i64 a, .int .i64 b] (0, 0) _ rfl (heap_alloc_new _ _) Try.underlying39 rfl (by kernel_rfl)) rfl ⟨rfl, (Below.refl _ _).alloc (Nat.le_refl _) _⟩

theorem results_row_row {P : Program} {fn : Func} {p q : Tmp} {ty ty' : TypeId} (h : fn.results = #[.cell p ty, .cell q ty']) (tmps : Array Value) (w : World) (g g' : Nat) (t t' : TypeId) (cs cs' : Array Value) (fr fr' : Nat × Nat) (d d' : TypeDesc)
    (hp : tmps.getD p undef = .pointer (some ⟨g, 0, none⟩)) (hg : w.heap[g]? = some (.cells cs t fr))
    (hu : P.underlying ty = some d) (hd : (match d with | .struct _ | .array _ _ => true | _ => false) = true) (hi : (P.info? ty).map (·.size) = some cs.size)
    (hp' : tmps.getD q undef = .pointer (some ⟨g', 0, none⟩)) (hg' : w.heap[g']? = some (.cells cs' t' fr'))
    (hu' : P.underlying ty' = some d') (hd' : (match d' with | .struct _ | .array _ _ => true | _ => false) = true) (hi' : (P.info? ty').map (·.size) = some cs'.size) :
    (results fn tmps).run P w = .ok (.tuple #[.agg cs, .agg cs']) w := by
  have hp2 : tmps[p]?.getD undef = .pointer (some ⟨g, 0, none⟩) := by simpa using hp
  have hp2' : tmps[q]?.getD undef = .pointer (some ⟨g', 0, none⟩) := by simpa using hp'
  simp [results, h, hp2, hp2', asAddr, run_loadVar_row w g t ty cs fr d hg hu hd hi, run_loadVar_row w g' t' ty' cs' fr' d' hg' hu' hd' hi']
theorem halves_any (w : World) : Calls Try.prog 86 #[] w fun e w' => e = .returned (.tuple #[fld 0 32, fld 32 32]) ∧ Below w.heap.size w w' := by
  go_enter Try.func86, Try.ntmps86
  go_wp2
  refine bodyPost_ret (results_row_row rfl _ _ w.heap.size (w.heap.size + 1) 137 137 #[.int .i64 0, .int .i64 32] #[.int .i64 32, .int .i64 32] (0, 0) (0, 0) _ _ rfl (by rw [Below.heap_alloc _ _ _ (by simp)]; exact heap_alloc_new _ _) Try.underlying137 rfl (by kernel_rfl) rfl (two_allocs _ _ _ _) Try.underlying137 rfl (by kernel_rfl)) rfl ⟨rfl, below2 _ _ _⟩
abbrev entsV : Value := .agg #[.string ⟨#[102, 108, 97, 103]⟩, .int .i64 1, .int .i64 1, .string ⟨#[99, 111, 117, 110, 116]⟩, .int .i64 1, .int .i64 63, .string ⟨#[119, 104, 111, 108, 101]⟩, .int .i64 2, .int .i64 64, .string ⟨#[112, 111, 105, 110, 116]⟩, .int .i64 64, .int .i64 64]
theorem entries_any (w : World) : Calls Try.prog 81 #[] w fun e w' => e = .returned entsV ∧ Below w.heap.size w w' := by
  go_enter Try.func81, Try.ntmps81
  go_wp2
  exact bodyPost_ret (results_cell_row rfl _ _ w.heap.size 142 #[.string ⟨#[102, 108, 97, 103]⟩, .int .i64 1, .int .i64 1, .string ⟨#[99, 111, 117, 110, 116]⟩, .int .i64 1, .int .i64 63, .string ⟨#[119, 104, 111, 108, 101]⟩, .int .i64 2, .int .i64 64, .string ⟨#[112, 111, 105, 110, 116]⟩, .int .i64 64, .int .i64 64] (0, 0) _ rfl (heap_alloc_new _ _) Try.underlying142 rfl (by kernel_rfl)) rfl ⟨rfl, (Below.refl _ _).alloc (Nat.le_refl _) _⟩

/-- A value with a number. -/
abbrev zval (x y : Nat) : Value := .agg #[.int .i64 0, cx x y]
abbrev pt64 : Value := .agg #[.int .i64 3, .int .i64 64]
set_option maxHeartbeats 1000000 in
theorem point_any (R I : Int) (h : R.natAbs < 1048576) (h' : I.natAbs < 1048576) (w : World) : Calls Try.prog 82 #[zval (wd false R) (wd false I)] w fun e w' => e = .returned (.tuple #[.int .u64 (wrdF R I), .int .i64 0]) ∧ Below w.heap.size w w' := by
  have L0 := Lib.hid ((LW.nil w).new 115 #[.int .i64 0, cx (wd false R) (wd false I)])
  have h1 := half_any R h
  have h2 := half_any I h'
  have s1 := sput_yes 0 32 0 R (by omega) (put_lo h).1
  have s2 := sput_yes 32 32 (w32 R) I (by have := w32_lt h; omega) (put_hi h h').1
  rw [(put_lo h).2] at s1
  rw [(put_hi h h').2] at s2
  clear h h'
  generalize w32 R = x at *
  generalize wrdF R I = y at *
  go_enter Try.func82, Try.ntmps82
  go_wp2_with fail
  refine (h1 _).mono ?_
  rintro e w1 ⟨rfl, rfl⟩
  go_wp2_with fail
  refine (h2 _).mono ?_
  rintro e w1 ⟨rfl, rfl⟩
  go_wp2_with fail
  refine (halves_any _).mono ?_
  rintro e w1 ⟨rfl, hb⟩
  have L1 := Lib.hid (((L0.out.bel hb).new 137 #[.int .i64 0, .int .i64 32]).new 137 #[.int .i64 32, .int .i64 32])
  clear hb L0 h1 h2
  go_wp2_with fail
  refine (s1 _).mono ?_
  rintro e w2 ⟨rfl, hb⟩
  have L2 := L1.out.bel hb
  simp only [World.size_alloc] at L2
  have c0 := L2.cell (i := 0) (b := w1.heap.size + 1) (v := .int .i64 32) (List.mem_cons_self ..) rfl
  have c1 := L2.cell (i := 1) (b := w1.heap.size + 1) (v := .int .i64 32) (List.mem_cons_self ..) rfl
  have L3 := Lib.hid L2
  clear hb L1 L2 s1
  go_wp2_with fail
  refine (s2 _).mono ?_
  rintro e w3 ⟨rfl, hb⟩
  have L4 := Lib.hid (L3.out.bel hb)
  clear hb L3 s2
  go_wp2
  go_ret2
  exact ⟨rfl, L4.out.below⟩
set_option maxHeartbeats 1000000 in
theorem put_pt (R I : Int) (h : R.natAbs < 1048576) (h' : I.natAbs < 1048576) (x : Nat) (b : Int) (w : World) : Calls Try.prog 74 #[pt64, .int .u64 x, .int .i64 b, zval (wd false R) (wd false I)] w fun e w' => e = .returned (.tuple #[.int .u64 (wrdF R I), .int .i64 0]) ∧ Below w.heap.size w w' := by
  have L0 := Lib.hid ((((LW.nil w).new 129 #[.int .i64 3, .int .i64 64]).new 115 #[.int .i64 0, cx (wd false R) (wd false I)]).new 137 #[.int .i64 b, .int .i64 64])
  have hp := point_any R I h h'
  clear h h'
  go_enter Try.func74, Try.ntmps74
  go_wp2_with fail
  refine (hp _).mono ?_
  rintro e w1 ⟨rfl, hb⟩
  have L1 := Lib.hid (L0.out.bel hb)
  clear hb L0 hp
  go_wp2
  go_ret2
  exact ⟨rfl, L1.out.below⟩
end Go.Proofs.Ytbgllbjkmjlipaa
