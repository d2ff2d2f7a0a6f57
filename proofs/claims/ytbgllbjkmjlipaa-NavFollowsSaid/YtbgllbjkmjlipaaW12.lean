/- Contracts: far, Clone; the document's Norm and Far. -/
import Derived.Test.YtbgllbjkmjlipaaW11
namespace Go.Proofs.Ytbgllbjkmjlipaa
open Go.RowKit Go.Shelf
attribute [local go_sem] fmt64

/-- How far two points are from one another. -/
def distF (R I S J : Int) : Int := (R - S) * (R - S) + (I - J) * (I - J)
theorem sq_bd {a : Int} (h : a.natAbs < 4194304) : 0 ≤ a * a ∧ a * a < 17592186044416 := by
  have h1 := mul_bd h h
  have h2 : 0 ≤ a * a := by rcases Int.le_total 0 a with c | c; exact Int.mul_nonneg c c; exact Int.mul_nonneg_of_nonpos_of_nonpos c c
  omega
theorem far_any (z z' y y' : Bool) (R I S J : Int) (h1 : R.natAbs < 1048576) (h2 : I.natAbs < 1048576) (h3 : S.natAbs < 1048576) (h4 : J.natAbs < 1048576) (w : World) :
    Calls Try.prog 58 #[cx (wd z R) (wd z' I), cx (wd y S) (wd y' J)] w fun e w' => e = .returned (.int .i64 (distF R I S J)) ∧ w = w' := by
  obtain ⟨s, t, hsub⟩ := cSum_sub z z' y y' R I S J (by omega) (by omega) (by omega) (by omega)
  have rsub : ∀ w, (binOp .sub 31 (.complex .f64 (wd z R) (wd z' I)) (.complex .f64 (wd y S) (wd y' J))).run Try.prog w = .ok (.complex .f64 (wd s (R - S)) (wd t (I - J))) w := fun w => run_complex_sum w .sub (.inr rfl) 31 .f64 _ _ _ _ _ _ hsub
  have m1 := run_fmul s s (R - S) (R - S) (by omega) (by omega)
  have m2 := run_fmul t t (I - J) (I - J) (by omega) (by omega)
  have b1 := sq_bd (a := R - S) (by omega)
  have b2 := sq_bd (a := I - J) (by omega)
  unfold distF
  generalize (R - S) * (R - S) = X at *
  generalize (I - J) * (I - J) = Y at *
  have ad : ∀ z z' w, (binOp .add 59 (.float .f64 (wd z X)) (.float .f64 (wd z' Y))).run Try.prog w = .ok (.float .f64 (wd (decide (X = 0) && z && z') (X + Y))) w := fun z z' w => run_float_arith w .add 59 .f64 _ _ _ (add_wd z z' X Y (by omega) (by omega) (by omega))
  have cv : ∀ z w, (convert 59 3 (.float .f64 (wd z (X + Y)))).run Try.prog w = .ok (.int .i64 (X + Y)) w := fun z w => run_convert_float_int w 59 3 .f64 .i64 (wd z (X + Y)) (X + Y) (by kernel_rfl) (by kernel_rfl) (floatToInt_wd z (X + Y) (by omega))
  clear h1 h2 h3 h4 b1 b2 hsub
  go_enter Try.func58, Try.ntmps58
  go_wp2
  go_ret
  exact ⟨rfl, rfl⟩
theorem norm_any (a b : Int) (ha : a.natAbs < 4194304) (hb : b.natAbs < 4194304) (w : World) : Calls Try.prog 72 #[zz a b] w fun e w' => e = .returned (.int .i64 (a * a + b * b)) ∧ Below w.heap.size w w' := by
  have hB0 := (Below.refl w.heap.size w).alloc (Nat.le_refl _) (Obj.cells #[.int .i64 a, .int .i64 b] 39)
  have b1 := sq_bd ha
  have b2 := sq_bd hb
  have w1 : IntKind.i64.wrap (a * a) = a * a := IntWalk.i64_in _ (by omega)
  have w2 : IntKind.i64.wrap (b * b) = b * b := IntWalk.i64_in _ (by omega)
  have w3 : IntKind.i64.wrap (a * a + b * b) = a * a + b * b := IntWalk.i64_in _ (by omega)
  clear b1 b2 ha hb
  go_enter Try.func72, Try.ntmps72
  go_wp2
  go_ret
  exact ⟨rfl, hB0⟩
theorem rfar_any (R I S J : Int) (h1 : R.natAbs < 1048576) (h2 : I.natAbs < 1048576) (h3 : S.natAbs < 1048576) (h4 : J.natAbs < 1048576) (w : World) :
    Calls Try.prog 60 #[zz R I, zz S J] w fun e w' => e = .returned (.int .i64 (distF R I S J)) ∧ Below w.heap.size w w' := by
  have hB0 := bt_alloc (bt_alloc (Below.refl w.heap.size w) (Obj.cells #[.int .i64 R, .int .i64 I] 39)) (Obj.cells #[.int .i64 S, .int .i64 J] 39)
  have hl := lessZ_any R I S J (IntWalk.i64_in _ (by omega)) (IntWalk.i64_in _ (by omega))
  have hn := norm_any (R - S) (I - J) (by omega) (by omega)
  unfold distF
  generalize (R - S) = X at *
  generalize (I - J) = Y at *
  generalize X * X + Y * Y = Z at *
  clear h1 h2 h3 h4
  go_enter Try.func60, Try.ntmps60
  go_wp2_with fail
  refine (hl _).mono ?_
  rintro e w1 ⟨rfl, hb⟩
  have hB1 := bt hB0 hb
  go_wp2_with fail
  refine (hn _).mono ?_
  rintro e w2 ⟨rfl, hb'⟩
  have hB2 := bt hB1 hb'
  go_wp2
  go_ret
  exact ⟨rfl, hB2⟩
set_option maxHeartbeats 2000000 in
set_option maxRecDepth 100000 in
/-- slices.Clone of points that are not nil. -/
theorem clone_any (b off n c : Nat) (V : List Value) (hV : V.length = n) (h1 : ∀ u, u ∈ V → u.oneCell' = true) (hn : n ≤ 100) (w : World) (hc : ∀ j u, V[j]? = some u → w.cell? ⟨b, off + j, none⟩ = some u) :
    Calls Try.prog 59 #[.slice (some ⟨b, off, none⟩) n c] w fun e w' => ∃ v', e = .returned v' ∧ w'.ownsRow w.heap.size 31 1 v' n V ∧ Below w.heap.size w w' := by
  obtain ⟨i0, hi, hz0, hz1, hz2⟩ := info_parts Try.info31
  have q29 : ∀ (w : World) (a : Option Addr) (n c n' c' : Nat), (binOp .eql 29 (.slice a n c) (.slice none n' c')).run Try.prog w = .ok (.bool a.isNone) w := fun w a n c n' c' => Lib.run_eql_slice_nil w _ _ a n c n' c' Try.underlying29
  have A := Lib.hid hc
  clear hc
  go_enter Try.func59, Try.ntmps59
  go_wp2_with (at_builtin; refine wpList_append_own _ rfl _ _ 29 rfl w.heap.size 31 i0 _ 1 16 Try.underlying29 hi hz0 hz1 hz2 rfl (by decide) _ _ _ rfl (World.ownsRow_made w #[] 0 (Nat.le_refl _) (Nat.zero_le _) rfl) ⟨b, off, none⟩ n c V rfl ?qc1 ?qc2 ?qc3 ?qc4 ?qc5 ?qc6 ?_)
  case qc1 => omega
  case qc2 =>
    intro j u hj
    rw [Addr.add_lit]
    exact Lib.cell?_alloc_some _ (A.out j u hj)
  case qc3 => exact h1
  case qc4 => unfold maxLen; omega
  case qc5 => omega
  case qc6 => simp
  intro v' w1 hown hgrow hnil
  go_wp2
  go_ret
  exact ⟨v', rfl, by simpa using hown, ((Below.refl _ w).alloc (Nat.le_refl _) _).grown hgrow (by simp) (by intro k hk; simp [Value.ownBlock] at hk; omega)⟩
end Go.Proofs.Ytbgllbjkmjlipaa
