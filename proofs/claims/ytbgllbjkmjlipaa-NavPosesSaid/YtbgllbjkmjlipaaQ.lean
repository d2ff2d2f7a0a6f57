/- Contracts: put, gauss's may and Add, Drift. -/
import Derived.Test.YtbgllbjkmjlipaaP
namespace Go.Proofs.Ytbgllbjkmjlipaa
open Go.RowKit
attribute [local go_sem] fmt64

theorem st45 (x y : Value) : Instr.storeAt 45 x y = stRow 45 x y := stRow_eq 45 x y
theorem st45_run {g : Nat} {W : World} {x1 y1 x2 y2 x3 y3 : Nat} (h : RR g 3 45 W) : (stRow 45 (.pointer (some ⟨g, 0, none⟩)) (.agg #[.complex .f64 x1 y1, .complex .f64 x2 y2, .complex .f64 x3 y3])).run Try.prog W = .ok () (W.setRow g #[.complex .f64 x1 y1, .complex .f64 x2 y2, .complex .f64 x3 y3]) :=
  stRow_run h rfl (by kernel_rfl) (by simp [Value.oneCell'])
attribute [local go_sem ↓] st45
attribute [local go_sem] st45_run

/-- A part x, and 0 more, is v. -/
def OKw (x v : Nat) : Prop := ∀ w, (binOp .add 59 (.float .f64 x) (.float .f64 0)).run Try.prog w = .ok (.float .f64 v) w
theorem okw (z : Bool) (a : Int) (ha : a.natAbs < 9007199254740992) : OKw (wd z a) (wd false a) := fun w => add0_run z a ha w
theorem nplain_gen (x y u v : Nat) (hx : OKw x u) (hy : OKw y v) (w : World) : Calls Try.prog 57 #[cx x y] w fun e w' => e = .returned (cx u v) ∧ w = w' := by
  unfold OKw at hx hy
  go_enter Try.func57, Try.ntmps57
  go_wp2
  go_ret
  exact ⟨rfl, rfl⟩

/-- A pose's box, and the result's row. -/
abbrev Three (w : World) (x2 y2 x3 y3 : Nat) (W : World) : Prop :=
  W.cell? ⟨w.heap.size, 1, none⟩ = some (cx x2 y2) ∧ W.cell? ⟨w.heap.size, 2, none⟩ = some (cx x3 y3) ∧ RR (w.heap.size + 1) 3 45 W ∧ Below w.heap.size w W ∧ w.heap.size + 1 < W.heap.size
theorem three_set {w W : World} {x2 y2 x3 y3 : Nat} (h : Three w x2 y2 x3 y3 W) (v0 v1 v2 : Value) : Three w x2 y2 x3 y3 (W.setRow (w.heap.size + 1) #[v0, v1, v2]) := by
  obtain ⟨h1, h2, hr, hb, hs⟩ := h
  exact ⟨(cell_setRow_other W (w.heap.size + 1) _ _ (by simp)).trans h1, (cell_setRow_other W (w.heap.size + 1) _ _ (by simp)).trans h2, hr.setRow _ rfl, below_setRow hb (by omega) _, by simpa using hs⟩
set_option maxRecDepth 100000 in
set_option maxHeartbeats 1000000 in
theorem put_any (x1 y1 : Nat) (z z' : Bool) (a b S J N M : Int) (ha : a.natAbs < 9007199254740992) (hb : b.natAbs < 9007199254740992) (hS : S.natAbs < 9007199254740992) (hJ : J.natAbs < 9007199254740992) (hN : N.natAbs < 9007199254740992) (hM : M.natAbs < 9007199254740992) (w : World) :
    Calls Try.prog 55 #[ps x1 y1 (wd false S) (wd false J) (wd false N) (wd false M), cx (wd z a) (wd z' b)] w fun e w' => e = .returned (ps (wd false a) (wd false b) (wd false S) (wd false J) (wd false N) (wd false M)) ∧ Below w.heap.size w w' := by
  have HK0 : Three w (wd false S) (wd false J) (wd false N) (wd false M) ((w.alloc (.cells #[cx x1 y1, cx (wd false S) (wd false J), cx (wd false N) (wd false M)] 45)).alloc (.cells #[.complex .f64 0 0, .complex .f64 0 0, .complex .f64 0 0] 45)).drew := by
    have hc : ((w.alloc (.cells #[cx x1 y1, cx (wd false S) (wd false J), cx (wd false N) (wd false M)] 45)).alloc (.cells #[.complex .f64 0 0, .complex .f64 0 0, .complex .f64 0 0] 45)).drew.heap[w.heap.size]? = some (.cells #[cx x1 y1, cx (wd false S) (wd false J), cx (wd false N) (wd false M)] 45 (0, 0)) := by
      show ((w.alloc _).alloc _).heap[w.heap.size]? = _
      rw [Below.heap_alloc _ _ _ (by simp)]; exact heap_alloc_new w _
    exact ⟨by rw [cell_of_row _ _ _ _ _ _ hc]; rfl, by rw [cell_of_row _ _ _ _ _ _ hc]; rfl, ⟨#[.complex .f64 0 0, .complex .f64 0 0, .complex .f64 0 0], rfl, two_allocs _ _ _ _⟩, (below2 _ _ _).drew, (by show w.heap.size + 1 < ((w.alloc _).alloc _).heap.size; simp)⟩
  have p1 := okw z a ha
  have p2 := okw z' b hb
  have p3 := okw false S hS
  have p4 := okw false J hJ
  have p5 := okw false N hN
  have p6 := okw false M hM
  have R1 := HK0.2.2.1
  clear ha hb hS hJ hN hM
  generalize wd z a = X1 at p1 ⊢
  generalize wd z' b = Y1 at p2 ⊢
  generalize wd false a = X1' at p1 ⊢
  generalize wd false b = Y1' at p2 ⊢
  generalize wd false S = X2 at p3 HK0 R1 ⊢
  generalize wd false J = Y2 at p4 HK0 R1 ⊢
  generalize wd false N = X3 at p5 HK0 R1 ⊢
  generalize wd false M = Y3 at p6 HK0 R1 ⊢
  go_enter Try.func55, Try.ntmps55
  go_wp2
  go_region_held3 (fun W => W.cell? ⟨w.heap.size, 1, none⟩ = some (cx X2 Y2) ∧ W.cell? ⟨w.heap.size, 2, none⟩ = some (cx X3 Y3) ∧ RR (w.heap.size + 1) 3 45 W ∧ Below w.heap.size w W ∧ w.heap.size + 1 < W.heap.size)
    (first | (with_reducible exact HK0) | (with_reducible exact three_set (by assumption) _ _ _))
    (first | (go_at_call 57; refine (nplain_gen _ _ _ _ (by assumption) (by assumption) _).mono ?_; rintro e w1 ⟨rfl, rfl⟩))
  rename_i hK
  go_wp2
  refine bodyPost_ret (results_cell_row rfl _ _ (w.heap.size + 1) 45 #[cx X1' Y1', cx X2 Y2, cx X3 Y3] (0, 0) _ rfl (R1.setRow_row _) Try.underlying45 rfl (by kernel_rfl)) rfl ⟨rfl, hK.2.2.2.1⟩

theorem gmay_any (A : Option Addr) (n cap : Nat) (X Y : Nat → Nat) (hn : n ≤ 1000) (w : World) (hp : Pts w w.heap.size A n (fun k => cx (X k) (Y k))) :
    Calls Try.prog 53 #[.slice A n cap] w fun e w' => e = .returned (.bool (allB X Y n)) ∧ Below w.heap.size w w' := by
  have HP := Lib.hid hp
  clear hp
  go_enter Try.func53, Try.ntmps53
  go_wp2
  go_loopw [7] (fun i wr => ∃ k : Nat, k ≤ n ∧ i = .int .i64 k ∧ Hid (allB X Y k = true) ∧ Below w.heap.size w wr) (fun i _ => n - (intOf i).toNat)
  case atStart => exact ⟨0, Nat.zero_le _, rfl, rfl, Below.refl _ _⟩
  case round =>
    obtain ⟨k, hk, rfl, HA, hb⟩ := hrel
    by_cases hlt : k < n
    · obtain ⟨b, off, rfl, hbl, hc0⟩ := HP.out k hlt
      have hc := (hb.cell (p := ⟨b, off + k, none⟩) hbl).trans hc0
      have HX := Lib.hid (allB_no (X := X) (Y := Y) hlt)
      have HS : Hid (mayZ (X k) (Y k) = true → allB X Y (k + 1) = true) := Lib.hid fun h => by rw [allB, HA.out, h]; rfl
      have hm := may_any (X k) (Y k)
      generalize mayZ (X k) (Y k) = mz at hm HX HS
      clear hc0
      cases mz with
      | false =>
        have HE := Lib.hid (HX.out rfl)
        clear HX HS
        go_wp2_with fail
        refine (hm _).mono ?_
        rintro e w1 ⟨rfl, hb1⟩
        go_wp2
        go_ret
        exact ⟨ret_bool (by rw [HE.out]), hb.trans (hb1.mono hb.size)⟩
      | true =>
        have HE := Lib.hid (HS.out rfl)
        clear HX HS
        go_wp2_with fail
        refine (hm _).mono ?_
        rintro e w1 ⟨rfl, hb1⟩
        have hb2 := hb.trans (hb1.mono hb.size)
        clear hb1
        go_wp2
        go_roundw
        case rel => exact ⟨k + 1, by omega, by go_num, HE.out, hb2⟩
        case measure => simp [intOf]; omega
    · obtain rfl : n = k := by omega
      go_wp2
      go_ret
      exact ⟨ret_bool (by rw [HA.out]), hb⟩
theorem gmay2_any (x y x' y' : Nat) (w : World) :
    Calls Try.prog 53 #[.slice (some ⟨w.heap.size, 0, none⟩) 2 2] (w.alloc (.cells #[cx x y, cx x' y'] 31)) fun e w' => e = .returned (.bool (mayZ x y && mayZ x' y')) ∧ Below w.heap.size w w' := by
  have hr := heap_alloc_new w (.cells #[cx x y, cx x' y'] 31)
  refine (gmay_any (some ⟨w.heap.size, 0, none⟩) 2 2 (fun k => if k = 0 then x else x') (fun k => if k = 0 then y else y') (by omega) _ ?_).mono ?_
  · intro k hk
    refine ⟨w.heap.size, 0, rfl, by simp, ?_⟩
    match k, hk with
    | 0, _ => rw [cell_of_row _ _ _ _ _ _ hr]; rfl
    | 1, _ => rw [cell_of_row _ _ _ _ _ _ hr]; rfl
  · rintro e w' ⟨rfl, hb⟩
    exact ⟨rfl, ((Below.refl _ _).alloc (Nat.le_refl _) _).trans (hb.mono (by simp))⟩
theorem gadd_bad (x y x' y' : Nat) (h : (mayZ x y && mayZ x' y') = false) (w : World) :
    Calls Try.prog 31 #[cx x y, cx x' y'] w fun e w' => e = .returned (pairC 0 0 10) ∧ Below w.heap.size w w' := by
  have hm := gmay2_any x y x' y' w
  rw [h] at hm
  clear h
  go_enter Try.func31, Try.ntmps31
  go_wp2_with fail
  refine hm.mono ?_
  rintro e w1 ⟨rfl, hb1⟩
  go_wp2
  go_ret2
  exact ⟨rfl, hb1⟩
theorem gadd_ok (z z' y y' : Bool) (R I S J : Int) (h1 : rightB R I = true) (h2 : rightB S J = true) (w : World) :
    Calls Try.prog 31 #[cx (wd z R) (wd z' I), cx (wd y S) (wd y' J)] w fun e w' => e = .returned (toldV (R + S) (I + J)) ∧ Below w.heap.size w w' := by
  have b1 := right_bd h1
  have b2 := right_bd h2
  have hm := gmay2_any (wd z R) (wd z' I) (wd y S) (wd y' J) w
  rw [may_wd _ _ _ _ (by omega) (by omega), may_wd _ _ _ _ (by omega) (by omega), h1, h2] at hm
  obtain ⟨s, t, hadd⟩ := cSum_add z z' y y' R I S J (by omega) (by omega) (by omega) (by omega)
  have radd : ∀ w, (binOp .add 31 (.complex .f64 (wd z R) (wd z' I)) (.complex .f64 (wd y S) (wd y' J))).run Try.prog w = .ok (.complex .f64 (wd s (R + S)) (wd t (I + J))) w := fun w => run_complex_sum w .add (.inl rfl) 31 .f64 _ _ _ _ _ _ hadd
  have ht := gtold_any s t (R + S) (I + J) (by omega) (by omega)
  clear hadd h1 h2 b1 b2
  generalize R + S = P at radd ht ⊢
  generalize I + J = Q at radd ht ⊢
  have hv : toldV P Q = pairC (if rightB P Q then wd false P else 0) (if rightB P Q then wd false Q else 0) (if rightB P Q then 0 else 10) := by unfold toldV; split <;> rfl
  rw [hv] at ht ⊢
  generalize (if rightB P Q then wd false P else 0) = p at ht ⊢
  generalize (if rightB P Q then wd false Q else 0) = q at ht ⊢
  generalize (if rightB P Q then (0 : Int) else 10) = c at ht ⊢
  go_enter Try.func31, Try.ntmps31
  go_wp2_with fail
  refine hm.mono ?_
  rintro e w1 ⟨rfl, hb1⟩
  go_wp2_with fail
  refine (ht _).mono ?_
  rintro e w2 ⟨rfl, hb2⟩
  have hb3 := hb1.trans (hb2.mono hb1.size)
  go_wp2
  go_ret2
  exact ⟨rfl, hb3⟩
end Go.Proofs.Ytbgllbjkmjlipaa
