/- Contract: Decode of a pose. -/
import Derived.Test.YtbgllbjkmjlipaaN12
namespace Go.Proofs.Ytbgllbjkmjlipaa
open Go.RowKit
attribute [local go_sem] fmt64
attribute [local go_sem ↓] st45
attribute [local go_sem] st45_run rr45 World.setRow_alloc_new

theorem num_wd (R I : Int) : Num (wd false R) (wd false I) R I := by
  have h := num_ints R I
  rw [ofInt_wd, ofInt_wd] at h
  exact h
theorem res45 {fn : Func} {p q : Tmp} (hf : fn.results = #[.cell p 45, .tmp q]) {W : World} {g : Nat} (hr : RR g 3 45 W) (tmps : Array Value) (x1 y1 x2 y2 x3 y3 : Nat) (e : Int)
    (hp : tmps.getD p undef = .pointer (some ⟨g, 0, none⟩)) (hq : tmps.getD q undef = .int .i64 e) {Q : Ending → World → Prop}
    (hQ : Q (.returned (.tuple #[ps x1 y1 x2 y2 x3 y3, .int .i64 e])) (W.setRow g #[cx x1 y1, cx x2 y2, cx x3 y3])) :
    bodyPost Try.prog fn Q .ret { tmps := tmps, defers := [] } (W.setRow g #[cx x1 y1, cx x2 y2, cx x3 y3]) := by
  refine bodyPost_ret (results_row_tmp hf _ _ g 45 #[cx x1 y1, cx x2 y2, cx x3 y3] (0, 0) _ hp (hr.setRow_row _) Try.underlying45 rfl (by kernel_rfl)) rfl ?_
  rw [hq]
  exact hQ
/-- A record's words. -/
def x3 (a b c : Nat) (k : Nat) : Nat := if k = 0 then a else if k = 1 then b else c
theorem x3_lt {a b c : Nat} (h0 : a < 18446744073709551616) (h1 : b < 18446744073709551616) (h2 : c < 18446744073709551616) (k : Nat) : x3 a b c k < 18446744073709551616 := by
  unfold x3
  split
  · exact h0
  · split
    · exact h1
    · exact h2

set_option maxRecDepth 100000 in
set_option maxHeartbeats 4000000 in
theorem ndecode_any (A : Option Addr) (cap : Nat) (x0 x1 x2 : Nat) (h0 : x0 < 18446744073709551616) (h1 : x1 < 18446744073709551616) (h2 : x2 < 18446744073709551616) (b off : Nat) (hA : A = some ⟨b, off, none⟩) (w : World) (hb : b < w.heap.size) (c0 : w.cell? ⟨b, off, none⟩ = some (.int .u64 x0)) (c1 : w.cell? ⟨b, off + 1, none⟩ = some (.int .u64 x1)) (c2 : w.cell? ⟨b, off + 2, none⟩ = some (.int .u64 x2)) :
    Calls Try.prog 42 #[.slice A 3 cap] w fun e w' => e = .returned (if ckF (lo32 x0) (hi32 x0) (lo32 x1) (hi32 x1) (lo32 x2) (hi32 x2) = 0 then .tuple #[ps (wd false (lo32 x0)) (wd false (hi32 x0)) (wd false (lo32 x1)) (wd false (hi32 x1)) (wd false (lo32 x2)) (wd false (hi32 x2)), .int .i64 0] else .tuple #[ps 0 0 0 0 0 0, .int .i64 11]) ∧ Below w.heap.size w w' := by
  subst hA
  have L0 := Lib.hid ((LW.nil w).new 45 #[.complex .f64 0 0, .complex .f64 0 0, .complex .f64 0 0])
  have hck := check_any _ _ _ _ _ _ _ _ _ _ _ _ (num_wd (lo32 x0) (hi32 x0)) (num_wd (lo32 x1) (hi32 x1)) (num_wd (lo32 x2) (hi32 x2))
  have e0 : x3 x0 x1 x2 0 = x0 := rfl
  have e1 : x3 x0 x1 x2 1 = x1 := rfl
  have e2 : x3 x0 x1 x2 2 = x2 := rfl
  have hcs : ∀ k, k < 3 → w.cell? ⟨b, off + k, none⟩ = some (.int .u64 (x3 x0 x1 x2 k)) := by
    intro k hk
    obtain rfl | rfl | rfl : k = 0 ∨ k = 1 ∨ k = 2 := by omega
    · rw [e0, Nat.add_zero]; exact c0
    · rw [e1]; exact c1
    · rw [e2]; exact c2
  have HC : Hid (∀ W, Below w.heap.size w W → ∀ k, k < 3 → W.cell? ⟨b, off + k, none⟩ = some (.int .u64 (x3 x0 x1 x2 k))) := Lib.hid fun W h k hk => (h.cell (p := ⟨b, off + k, none⟩) hb).trans (hcs k hk)
  have hdec := decode_rows (x3 x0 x1 x2) (fun k _ => x3_lt h0 h1 h2 k)
  have hv0 : dval (x3 x0 x1 x2) 0 = cx (wd false (lo32 x0)) (wd false (hi32 x0)) := by unfold dval; rw [e0]
  have hv1 : dval (x3 x0 x1 x2) 1 = cx (wd false (lo32 x1)) (wd false (hi32 x1)) := by unfold dval; rw [e1]
  have hv2 : dval (x3 x0 x1 x2) 2 = cx (wd false (lo32 x2)) (wd false (hi32 x2)) := by unfold dval; rw [e2]
  clear c0 c1 c2 h0 h1 h2 hcs e0 e1 e2
  generalize lo32 x0 = R1 at *
  generalize hi32 x0 = I1 at *
  generalize lo32 x1 = R2 at *
  generalize hi32 x1 = I2 at *
  generalize lo32 x2 = R3 at *
  generalize hi32 x2 = I3 at *
  obtain ⟨ck, hck0⟩ : ∃ x, ckF R1 I1 R2 I2 R3 I3 = x := ⟨_, rfl⟩
  rw [hck0] at hck ⊢
  clear hck0
  generalize wd false R1 = X1 at *
  generalize wd false I1 = Y1 at *
  generalize wd false R2 = X2 at *
  generalize wd false I2 = Y2 at *
  generalize wd false R3 = X3 at *
  generalize wd false I3 = Y3 at *
  obtain ⟨ans, hans⟩ : ∃ x, (if ck = 0 then (Value.tuple #[ps X1 Y1 X2 Y2 X3 Y3, .int .i64 0]) else .tuple #[ps 0 0 0 0 0 0, .int .i64 11]) = x := ⟨_, rfl⟩
  rw [hans]
  go_enter Try.func42, Try.ntmps42
  go_wp2_with fail
  refine (form_at _).mono ?_
  rintro e w1 ⟨rfl, hb1, hrow⟩
  have L1 := Lib.hid (L0.out.bel hb1)
  simp only [World.size_alloc] at hrow
  have hdec2 := hdec (w.heap.size + 1 + 1) 3 b off cap w1 hrow (Nat.lt_of_lt_of_le hb L1.out.below.size) (HC.out _ L1.out.below)
  clear hdec
  go_wp2_with fail
  refine hdec2.mono ?_
  rintro e w2 ⟨go, rfl, hown, hb2⟩
  have L2 := Lib.hid (L1.out.bel hb2)
  have HO := Lib.hid hown
  clear hb1 L0 hrow L1 hb2 hown hdec2 HC
  go_wp2
  have LD := Lib.hid L2.out.drew
  have hw1 := (Array.getElem?_eq_some_iff.1 (L2.out.row (List.mem_cons_self ..))).1
  clear L2
  have q1 : w2.cell? ⟨go, 1, none⟩ = some (cx X1 Y1) := by rw [← hv0]; exact (p6_at HO.out (k := 0) (by omega)).2
  have q3 : w2.cell? ⟨go, 3, none⟩ = some (cx X2 Y2) := by rw [← hv1]; exact (p6_at HO.out (k := 1) (by omega)).2
  have q5 : w2.cell? ⟨go, 5, none⟩ = some (cx X3 Y3) := by rw [← hv2]; exact (p6_at HO.out (k := 2) (by omega)).2
  have dq1 : w2.drew.cell? ⟨go, 1, none⟩ = some (cx X1 Y1) := q1
  have aq1 : (w2.drew.alloc (.cells #[.complex .f64 0 0, .complex .f64 0 0, .complex .f64 0 0] 45)).cell? ⟨go, 1, none⟩ = some (cx X1 Y1) := Lib.cell?_alloc_some _ dq1
  have bq1 : (w2.alloc (.cells #[.complex .f64 0 0, .complex .f64 0 0, .complex .f64 0 0] 45)).cell? ⟨go, 1, none⟩ = some (cx X1 Y1) := Lib.cell?_alloc_some _ q1
  have dq3 : w2.drew.cell? ⟨go, 3, none⟩ = some (cx X2 Y2) := q3
  have aq3 : (w2.drew.alloc (.cells #[.complex .f64 0 0, .complex .f64 0 0, .complex .f64 0 0] 45)).cell? ⟨go, 3, none⟩ = some (cx X2 Y2) := Lib.cell?_alloc_some _ dq3
  have bq3 : (w2.alloc (.cells #[.complex .f64 0 0, .complex .f64 0 0, .complex .f64 0 0] 45)).cell? ⟨go, 3, none⟩ = some (cx X2 Y2) := Lib.cell?_alloc_some _ q3
  have dq5 : w2.drew.cell? ⟨go, 5, none⟩ = some (cx X3 Y3) := q5
  have aq5 : (w2.drew.alloc (.cells #[.complex .f64 0 0, .complex .f64 0 0, .complex .f64 0 0] 45)).cell? ⟨go, 5, none⟩ = some (cx X3 Y3) := Lib.cell?_alloc_some _ dq5
  have bq5 : (w2.alloc (.cells #[.complex .f64 0 0, .complex .f64 0 0, .complex .f64 0 0] 45)).cell? ⟨go, 5, none⟩ = some (cx X3 Y3) := Lib.cell?_alloc_some _ q5
  have hrr : RR w2.heap.size 3 45 (w2.alloc (.cells #[.complex .f64 0 0, .complex .f64 0 0, .complex .f64 0 0] 45)) := rr45 _ _ _ _
  have hrr2 : RR w2.heap.size 3 45 (w2.drew.alloc (.cells #[.complex .f64 0 0, .complex .f64 0 0, .complex .f64 0 0] 45)) := rr45 w2.drew _ _ _
  have hrr3 : RR w2.heap.size 3 45 (w2.alloc (.cells #[.complex .f64 0 0, .complex .f64 0 0, .complex .f64 0 0] 45)).drew := rr45d _ _ _ _
  have LN : Hid (LW w 0 [(w2.heap.size, 45, #[cx X1 Y1, cx X2 Y2, cx X3 Y3]), (w.heap.size, 45, #[.complex .f64 0 0, .complex .f64 0 0, .complex .f64 0 0])] ((w2.alloc (.cells #[.complex .f64 0 0, .complex .f64 0 0, .complex .f64 0 0] 45)).drew.setRow w2.heap.size #[cx X1 Y1, cx X2 Y2, cx X3 Y3])) := Lib.hid (LW.add (LW.setRowAt (W := (w2.alloc (.cells #[.complex .f64 0 0, .complex .f64 0 0, .complex .f64 0 0] 45)).drew) (show LW w 0 [(w.heap.size, 45, #[.complex .f64 0 0, .complex .f64 0 0, .complex .f64 0 0])] (w2.alloc (.cells #[.complex .f64 0 0, .complex .f64 0 0, .complex .f64 0 0] 45)).drew from LD.out.alloc (.cells #[.complex .f64 0 0, .complex .f64 0 0, .complex .f64 0 0] 45)) (by intro r hr; obtain rfl := List.mem_singleton.1 hr; show w.heap.size ≠ w2.heap.size; omega) (by omega) #[cx X1 Y1, cx X2 Y2, cx X3 Y3]) (hrr3.setRow_row #[cx X1 Y1, cx X2 Y2, cx X3 Y3]))
  obtain ⟨Q0, hQ0⟩ : ∃ Q0 : Act → World → Prop, Q0 = fun a_ W' => ∃ g, a_ = ({ tmps := #[.slice (some ⟨b, off, none⟩) 3 cap, undef, .pointer (some ⟨w.heap.size, 0, none⟩), .int .i64 0, .slice (some ⟨go, 0, none⟩) 3 3, .int .i64 0, .pointer (some ⟨g, 0, none⟩), .slice (some ⟨b, off, none⟩) 3 cap, .int .i64 3, .bool false, undef, .tuple #[.slice (some ⟨go, 0, none⟩) 3 3, .int .i64 0], .slice (some ⟨w.heap.size + 1 + 1, 0, none⟩) 3 3, .slice (some ⟨b, off, none⟩) 3 cap, .tuple #[.slice (some ⟨go, 0, none⟩) 3 3, .int .i64 0], .slice (some ⟨go, 0, none⟩) 3 3, .int .i64 0, .int .i64 0, .bool false, undef, .slice (some ⟨go, 0, none⟩) 3 3, .pointer (some ⟨go, 0, none⟩), .pointer (some ⟨go, 1, none⟩), cx X1 Y1, .slice (some ⟨go, 0, none⟩) 3 3, .pointer (some ⟨go, 2, none⟩), .pointer (some ⟨go, 3, none⟩), cx X2 Y2, .slice (some ⟨go, 0, none⟩) 3 3, .pointer (some ⟨go, 4, none⟩), .pointer (some ⟨go, 5, none⟩), cx X3 Y3, ps X1 Y1 X2 Y2 X3 Y3, undef, undef, undef, undef, undef], defers := [] } : Act) ∧ LW w 0 [(g, 45, #[cx X1 Y1, cx X2 Y2, cx X3 Y3]), (w.heap.size, 45, #[.complex .f64 0 0, .complex .f64 0 0, .complex .f64 0 0])] W' ∧ w2.heap.size ≤ g := ⟨_, rfl⟩
  refine wp_then (K2 := Q0) ?reg ?imp
  case reg =>
    clear hck hans
    go_region
    all_goals (show Q0 _ _; rw [hQ0]; exact ⟨_, rfl, LN.out, Nat.le_refl _⟩)
  rw [hQ0]
  rintro a_ W3 ⟨g, rfl, l3, hwg⟩
  have L3 := Lib.hid l3
  have hge : w.heap.size ≠ g := by omega
  clear l3 LD hwg HO hv0 hv1 hv2 q1 q3 q5 dq1 dq3 dq5 aq1 aq3 aq5 bq1 bq3 bq5 LN hrr hrr2 hrr3 hQ0
  have f0 := L3.out.cell (i := 0) (b := g) (v := cx X1 Y1) (List.mem_cons_self ..) rfl
  have f1 := L3.out.cell (i := 1) (b := g) (v := cx X2 Y2) (List.mem_cons_self ..) rfl
  have f2 := L3.out.cell (i := 2) (b := g) (v := cx X3 Y3) (List.mem_cons_self ..) rfl
  go_wp2_with fail
  refine (hck _).mono ?_
  rintro e W4 ⟨rfl, hb3⟩
  have L4 := Lib.hid (L3.out.bel hb3)
  have hr : RR w.heap.size 3 45 W4 := ⟨_, rfl, L4.out.row (b := w.heap.size) (List.mem_cons_of_mem _ (List.mem_cons_self ..))⟩
  have HR := Lib.hid hr
  have y0 := L4.out.cell (i := 0) (b := g) (v := cx X1 Y1) (List.mem_cons_self ..) rfl
  have y1 := L4.out.cell (i := 1) (b := g) (v := cx X2 Y2) (List.mem_cons_self ..) rfl
  have y2 := L4.out.cell (i := 2) (b := g) (v := cx X3 Y3) (List.mem_cons_self ..) rfl
  clear hb3 f0 f1 f2 L3 hck
  by_cases hz : ck = 0
  · subst hz
    rw [if_pos rfl] at hans
    subst hans
    go_wp2
    exact res45 rfl HR.out _ _ _ _ _ _ _ _ rfl rfl ⟨rfl, below_setRow L4.out.below (Nat.le_refl _) _⟩
  · rw [if_neg hz] at hans
    subst hans
    have hne : (ck != 0) = true := by simp [bne, hz]
    go_wp2
    exact res45 rfl HR.out _ _ _ _ _ _ _ _ rfl rfl ⟨rfl, below_setRow L4.out.below (Nat.le_refl _) _⟩
end Go.Proofs.Ytbgllbjkmjlipaa
