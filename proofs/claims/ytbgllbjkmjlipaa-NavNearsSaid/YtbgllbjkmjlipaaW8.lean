/- Contracts: Toward. -/
import Derived.Test.YtbgllbjkmjlipaaW2
namespace Go.Proofs.Ytbgllbjkmjlipaa
open Go.RowKit
attribute [local go_sem] fmt64

@[local go_sem] theorem run_store_float (P : Program) (w : World) (a : Addr) (m : Mode) (k : FloatKind) (x : Nat) : (store a (.float k x) m).run P w = stored P w a (.float k x) m := run_store P w a _ m rfl
theorem toward1_any (z : Bool) (a b k : Int) (ha : a.natAbs < 1048576) (hb : b.natAbs < 1048576) (hk : 0 ≤ k ∧ k < 1048576) (z' : Bool) (B : Nat) (W : World) (hc : W.cell? ⟨B, 0, none⟩ = some (.float .f64 (wd false k))) :
    Calls Try.prog 61 #[.float .f64 (wd z a), .float .f64 (wd z' b), .pointer (some ⟨B, 0, none⟩)] W fun e w' => (∃ s, e = .returned (.float .f64 (wd s (a + cutF (b - a) k)))) ∧ W = w' := by
  have hneg : Op.negFloat .f64 (wd false k) = wd true (-k) := neg_wd false k (by omega)
  have rneg : ∀ w, (Op.unary .neg (.float .f64 (wd false k))).run Try.prog w = .ok (.float .f64 (wd true (-k))) w := fun w => by simp [Op.unary, hneg]
  have rsub := run_fsub z' z b a (by omega) (by omega)
  generalize (decide (b = 0) && z' && !z) = s1 at rsub
  obtain ⟨m1, rm1⟩ := min_wd false s1 k (b - a) (by omega) (by omega)
  have n1 : (miF k (b - a)).natAbs < 4194304 := by unfold miF; split <;> omega
  obtain ⟨u1, ru1⟩ := max_wd true m1 (-k) (miF k (b - a)) (by omega) (by omega)
  rw [cut_eq _ _ hk.1] at ru1
  have hcb : (cutF (b - a) k).natAbs < 1048576 := by unfold cutF; split <;> (try split) <;> omega
  have radd : ∀ w, (binOp .add 59 (.float .f64 (wd z a)) (.float .f64 (wd u1 (cutF (b - a) k)))).run Try.prog w = .ok (.float .f64 (wd (decide (a = 0) && z && u1) (a + cutF (b - a) k))) w := fun w => run_float_arith w .add 59 .f64 _ _ _ (add_wd z u1 a (cutF (b - a) k) (by omega) (by omega) (by omega))
  generalize (decide (a = 0) && z && u1) = s2 at radd
  clear hneg n1 hcb ha hb hk
  generalize cutF (b - a) k = X at *
  go_enter Try.func61, Try.ntmps61
  go_wp2
  go_ret
  exact ⟨⟨_, rfl⟩, rfl⟩
/-- A step brings a part between it and its end. -/
theorem cut_between (a b k : Int) (hk : 0 ≤ k) (ha : a.natAbs < 1048576) (hb : b.natAbs < 1048576) : (a + cutF (b - a) k).natAbs < 1048576 := by
  unfold cutF; split <;> (try split) <;> omega
set_option maxRecDepth 100000 in
set_option maxHeartbeats 1000000 in
theorem toward_any (R I a b k : Int) (h1 : rightB R I = true) (h2 : rightB a b = true) (hk : 0 ≤ k ∧ k < 1048576) (w : World) :
    Calls Try.prog 40 #[cx (wd false R) (wd false I), cx (wd false a) (wd false b), .int .i64 k] w fun e w' => e = .returned (pairC (wd false (R + cutF (a - R) k)) (wd false (I + cutF (b - I) k)) 0) ∧ Below w.heap.size w w' := by
  have g1 := right_bd h1
  have g2 := right_bd h2
  have hm := gmay2_any (wd false R) (wd false I) (wd false a) (wd false b) w
  rw [may_wd _ _ _ _ (by omega) (by omega), may_wd _ _ _ _ (by omega) (by omega), h1, h2] at hm
  have d0 : decide (k < 0) = false := by simp; omega
  have d1 : (2097152 < k) = False := by simp; omega
  have hmin : (if (2097152 : Int) < k then (2097152 : Int) else k) = k := if_neg (by omega)
  have o1 := ofInt_wd k
  have t1 := fun B W hc => toward1_any false R a k g1.1 g2.1 hk false B W hc
  have t2 := fun B W hc => toward1_any false I b k g1.2 g2.2 hk false B W hc
  have b1 := cut_between R a k hk.1 g1.1 g2.1
  have b2 := cut_between I b k hk.1 g1.2 g2.2
  have ht := fun s t => gtold_any s t (R + cutF (a - R) k) (I + cutF (b - I) k) (by omega) (by omega)
  rw [show toldV (R + cutF (a - R) k) (I + cutF (b - I) k) = pairC (wd false (R + cutF (a - R) k)) (wd false (I + cutF (b - I) k)) 0 from if_pos (decide_eq_true (by omega))] at ht
  clear b1 b2 h1 h2 hk g1 g2
  generalize R + cutF (a - R) k = X at *
  generalize I + cutF (b - I) k = Y at *
  go_enter Try.func40, Try.ntmps40
  go_wp2_with fail
  refine hm.mono ?_
  rintro e w1 ⟨rfl, hb1⟩
  have hc1 := fun v => (Boxed.new w1 59 v).cell
  have hbk := (hb1.alloc hb1.size (.cells #[.float .f64 (wd false k)] 59))
  go_wp2_with fail
  refine (t1 _ _ (hc1 _)).mono ?_
  rintro e w2 ⟨⟨s, rfl⟩, rfl⟩
  go_wp2_with fail
  refine (t2 _ _ (hc1 _)).mono ?_
  rintro e w3 ⟨⟨t, rfl⟩, rfl⟩
  go_wp2_with fail
  refine (ht _ _ _).mono ?_
  rintro e w4 ⟨rfl, hb4⟩
  have hb5 := hbk.trans (hb4.mono hbk.size)
  go_wp2
  go_ret2
  exact ⟨rfl, hb5⟩
end Go.Proofs.Ytbgllbjkmjlipaa
