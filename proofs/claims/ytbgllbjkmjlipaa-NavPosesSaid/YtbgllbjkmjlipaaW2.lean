/- Contracts: isPose, Part, Cut; Drift, Blend, Steer of every pose. -/
import Derived.Test.YtbgllbjkmjlipaaW
namespace Go.Proofs.Ytbgllbjkmjlipaa
open Go.RowKit
attribute [local go_sem] fmt64

set_option maxRecDepth 100000 in
set_option maxHeartbeats 1000000 in
theorem isPose_any (R I S J N M : Int) (hR : R.natAbs < 1048576 ∧ I.natAbs < 1048576) (hS : S.natAbs < 1048576 ∧ J.natAbs < 1048576) (hN : N.natAbs < 1048576 ∧ M.natAbs < 1048576) (w : World) :
    Calls Try.prog 35 #[ps (wd false R) (wd false I) (wd false S) (wd false J) (wd false N) (wd false M), pz R I S J N M] w fun e w' => e = .returned (.bool true) ∧ Below w.heap.size w w' := by
  have i1 := is_any R I (by omega) (by omega)
  have i2 := is_any S J (by omega) (by omega)
  have i3 := is_any N M (by omega) (by omega)
  have L0 := ((LW.nil w).new 45 #[cx (wd false R) (wd false I), cx (wd false S) (wd false J), cx (wd false N) (wd false M)]).new 48 #[.int .i64 R, .int .i64 I, .int .i64 S, .int .i64 J, .int .i64 N, .int .i64 M]
  rw [World.size_alloc] at L0
  have LL0 := Lib.hid L0
  clear L0 hR hS hN
  go_enter Try.func35, Try.ntmps35
  go_wp2_with fail
  refine (i1 _).mono ?_
  rintro e w1 ⟨rfl, hb⟩
  have LL1 := Lib.hid (LL0.out.bel hb)
  have c0 := LL1.out.cell (i := 1) (v := cx (wd false S) (wd false J)) (List.mem_cons_of_mem _ (List.mem_cons_self ..)) rfl
  have c1 := LL1.out.cell (i := 2) (v := .int .i64 S) (List.mem_cons_self ..) rfl
  have c2 := LL1.out.cell (i := 3) (v := .int .i64 J) (List.mem_cons_self ..) rfl
  clear hb LL0 i1
  go_wp2_with fail
  refine (i2 _).mono ?_
  rintro e w2 ⟨rfl, hb⟩
  have LL2 := Lib.hid (LL1.out.bel hb)
  clear hb LL1 i2 c0 c1 c2
  have c0 := LL2.out.cell (i := 2) (v := cx (wd false N) (wd false M)) (List.mem_cons_of_mem _ (List.mem_cons_self ..)) rfl
  have c1 := LL2.out.cell (i := 4) (v := .int .i64 N) (List.mem_cons_self ..) rfl
  have c2 := LL2.out.cell (i := 5) (v := .int .i64 M) (List.mem_cons_self ..) rfl
  go_wp2_with fail
  refine (i3 _).mono ?_
  rintro e w3 ⟨rfl, hb⟩
  have LL3 := Lib.hid (LL2.out.bel hb)
  clear hb LL2 i3 c0 c1 c2
  go_wp2
  go_ret
  exact ⟨rfl, LL3.out.below⟩
theorem part_any (a b k : Int) (ha : a.natAbs < 1048576) (hb : b.natAbs < 1048576) (hk : 0 ≤ k ∧ k ≤ 16) (w : World) :
    Calls Try.prog 36 #[.int .i64 a, .int .i64 b, .int .i64 k] w fun e w' => e = .returned (.int .i64 (partF a b k)) ∧ w = w' := by
  have m1 := mul_small (b - a) k hk (by omega)
  have m2 := tdiv_bd (b - a) k hk 2097152 (by omega)
  have w1 : IntKind.i64.wrap (b - a) = b - a := IntWalk.i64_in _ (by omega)
  obtain ⟨d, hD⟩ : ∃ d, (b - a) * k = d := ⟨_, rfl⟩
  have w2 : IntKind.i64.wrap ((b - a) * k) = d := (IntWalk.i64_in _ (by omega)).trans hD
  unfold partF
  rw [hD] at m1 m2 ⊢
  clear hD
  by_cases hd : d < 0
  · have dd : decide (d < 0) = true := by simpa using hd
    have e1 : (-d).tdiv 16 = -(d.tdiv 16) := Int.neg_tdiv ..
    have w3 : IntKind.i64.wrap (-d) = -d := IntWalk.i64_in _ (by omega)
    have w4 : IntKind.i64.wrap (-(d.tdiv 16)) = -(d.tdiv 16) := IntWalk.i64_in _ (by omega)
    have w5 : IntKind.i64.wrap (a - -(d.tdiv 16)) = a - -(d.tdiv 16) := IntWalk.i64_in _ (by omega)
    have e2 : a - -(d.tdiv 16) = a + d.tdiv 16 := by omega
    have HE := Lib.hid e2
    rw [e2] at w5
    have w6 : IntKind.i64.wrap (a + d.tdiv 16) = a + d.tdiv 16 := w5
    clear e2 m1 m2 hd ha hb hk
    go_enter Try.func36, Try.ntmps36
    go_wp2
    go_ret
    exact ⟨rfl, rfl⟩
  · have dd : decide (d < 0) = false := by simpa using hd
    have w3 : IntKind.i64.wrap (d.tdiv 16) = d.tdiv 16 := IntWalk.i64_in _ (by omega)
    have w4 : IntKind.i64.wrap (a + d.tdiv 16) = a + d.tdiv 16 := IntWalk.i64_in _ (by omega)
    clear m1 m2 hd ha hb hk
    go_enter Try.func36, Try.ntmps36
    go_wp2
    go_ret
    exact ⟨rfl, rfl⟩
theorem cut_any (n mo : Int) (hm : 0 ≤ mo ∧ mo < 1048576) (w : World) : Calls Try.prog 37 #[.int .i64 n, .int .i64 mo] w fun e w' => e = .returned (.int .i64 (cutF n mo)) ∧ w = w' := by
  have w1 : IntKind.i64.wrap (-mo) = -mo := IntWalk.i64_in _ (by omega)
  by_cases c1 : mo < n
  · have d1 : decide (mo < n) = true := by simpa using c1
    rw [show cutF n mo = mo by unfold cutF; rw [if_pos c1]]
    clear c1 hm
    go_enter Try.func37, Try.ntmps37
    go_wp2
    go_ret
    exact ⟨rfl, rfl⟩
  · have d1 : decide (mo < n) = false := by simpa using c1
    by_cases c2 : n < -mo
    · have d2 : decide (n < -mo) = true := by simpa using c2
      rw [show cutF n mo = -mo by unfold cutF; rw [if_neg c1, if_pos c2]]
      clear c1 c2 hm
      go_enter Try.func37, Try.ntmps37
      go_wp2
      go_ret
      exact ⟨rfl, rfl⟩
    · have d2 : decide (n < -mo) = false := by simpa using c2
      rw [show cutF n mo = n by unfold cutF; rw [if_neg c1, if_neg c2]]
      clear c1 c2 hm
      go_enter Try.func37, Try.ntmps37
      go_wp2
      go_ret
      exact ⟨rfl, rfl⟩

theorem right0 : rightB 0 0 = true := by decide
theorem drift_gen {x1 y1 x2 y2 x3 y3 : Nat} {R I S J N M : Int} (h1 : Num x1 y1 R I) (h2 : Num x2 y2 S J) (h3 : Num x3 y3 N M) (w : World) :
    Calls Try.prog 32 #[ps x1 y1 x2 y2 x3 y3] w fun e w' =>
      e = .returned (pairP (wd false (gV (ckF R I S J N M) true (R + S) (I + J) (R + S))) (wd false (gV (ckF R I S J N M) true (R + S) (I + J) (I + J))) (wd false (gV (ckF R I S J N M) true (R + S) (I + J) S)) (wd false (gV (ckF R I S J N M) true (R + S) (I + J) J)) (wd false (gV (ckF R I S J N M) true (R + S) (I + J) N)) (wd false (gV (ckF R I S J N M) true (R + S) (I + J) M)) (gE (ckF R I S J N M) true (R + S) (I + J))) ∧ Below w.heap.size w w' := by
  have hc := check_any _ _ _ _ _ _ _ _ _ _ _ _ h1 h2 h3
  by_cases c : ckF R I S J N M = 0
  · rw [c] at hc ⊢
    obtain ⟨g1, g2, g3⟩ := ck_zero c
    obtain ⟨rfl, rfl⟩ := num_right h1 g1
    obtain ⟨rfl, rfl⟩ := num_right h2 g2
    obtain ⟨rfl, rfl⟩ := num_right h3 (nose_bd g3)
    have h := drift_ok R I S J N M g1 g2 g3 w
    cases r : rightB (R + S) (I + J) with
    | true =>
      rw [r, if_pos rfl] at h
      simp only [gE_y r, gV_y r]
      exact h
    | false =>
      rw [r, if_neg (by decide)] at h
      simp only [gE_n r, gV_n r, lit0]
      exact h
  · simp only [gE_ck c, gV_ck c, lit0]
    exact drift_no _ _ _ _ _ _ _ hc c w
theorem blend_gen {x1 y1 x2 y2 x3 y3 x y : Nat} {R I S J N M a b : Int} (k : Int) (h1 : Num x1 y1 R I) (h2 : Num x2 y2 S J) (h3 : Num x3 y3 N M) (h4 : Num x y a b) (w : World) :
    Calls Try.prog 33 #[ps x1 y1 x2 y2 x3 y3, cx x y, .int .i64 k] w fun e w' =>
      e = .returned (pairP (wd false (gV (ckF R I S J N M) (rightB a b && decide (0 ≤ k ∧ k ≤ 16)) 0 0 (partF R a k))) (wd false (gV (ckF R I S J N M) (rightB a b && decide (0 ≤ k ∧ k ≤ 16)) 0 0 (partF I b k))) (wd false (gV (ckF R I S J N M) (rightB a b && decide (0 ≤ k ∧ k ≤ 16)) 0 0 S)) (wd false (gV (ckF R I S J N M) (rightB a b && decide (0 ≤ k ∧ k ≤ 16)) 0 0 J)) (wd false (gV (ckF R I S J N M) (rightB a b && decide (0 ≤ k ∧ k ≤ 16)) 0 0 N)) (wd false (gV (ckF R I S J N M) (rightB a b && decide (0 ≤ k ∧ k ≤ 16)) 0 0 M)) (gE (ckF R I S J N M) (rightB a b && decide (0 ≤ k ∧ k ≤ 16)) 0 0)) ∧ Below w.heap.size w w' := by
  have hc := check_any _ _ _ _ _ _ _ _ _ _ _ _ h1 h2 h3
  by_cases c : ckF R I S J N M = 0
  · rw [c] at hc ⊢
    obtain ⟨g1, g2, g3⟩ := ck_zero c
    cases r : (rightB a b && decide (0 ≤ k ∧ k ≤ 16)) with
    | false =>
      simp only [gE_r, gV_r, lit0]
      refine blend_bad _ _ _ _ _ _ _ _ _ hc ?_ w
      rw [num_may h4]
      simp at r
      cases q : rightB a b with
      | false => exact .inl rfl
      | true => have := r q; omega
    | true =>
      obtain ⟨rfl, rfl⟩ := num_right h1 g1
      obtain ⟨rfl, rfl⟩ := num_right h2 g2
      obtain ⟨rfl, rfl⟩ := num_right h3 (nose_bd g3)
      simp at r
      obtain ⟨rfl, rfl⟩ := num_right h4 r.1
      simp only [gE_y right0, gV_y right0]
      exact blend_ok R I S J N M a b k g1 g2 g3 r.1 r.2 w
  · simp only [gE_ck c, gV_ck c, lit0]
    exact blend_no _ _ _ _ _ _ _ _ _ _ hc c w
theorem steer_gen {x1 y1 x2 y2 x3 y3 x y : Nat} {R I S J N M a b : Int} (k : Int) (h1 : Num x1 y1 R I) (h2 : Num x2 y2 S J) (h3 : Num x3 y3 N M) (h4 : Num x y a b) (w : World) :
    Calls Try.prog 34 #[ps x1 y1 x2 y2 x3 y3, cx x y, .int .i64 k] w fun e w' =>
      e = .returned (pairC (wd false (gV (ckF R I S J N M) (rightB a b && decide (0 ≤ k ∧ k < 1048576)) 0 0 (cutF (a - R) k))) (wd false (gV (ckF R I S J N M) (rightB a b && decide (0 ≤ k ∧ k < 1048576)) 0 0 (cutF (b - I) k))) (gE (ckF R I S J N M) (rightB a b && decide (0 ≤ k ∧ k < 1048576)) 0 0)) ∧ Below w.heap.size w w' := by
  have hc := check_any _ _ _ _ _ _ _ _ _ _ _ _ h1 h2 h3
  by_cases c : ckF R I S J N M = 0
  · rw [c] at hc ⊢
    obtain ⟨g1, g2, g3⟩ := ck_zero c
    cases r : (rightB a b && decide (0 ≤ k ∧ k < 1048576)) with
    | false =>
      simp only [gE_r, gV_r, lit0]
      refine steer_bad _ _ _ _ _ _ _ _ _ hc ?_ w
      rw [num_may h4]
      simp at r
      cases q : rightB a b with
      | false => exact .inl rfl
      | true => have := r q; omega
    | true =>
      obtain ⟨rfl, rfl⟩ := num_right h1 g1
      obtain ⟨rfl, rfl⟩ := num_right h2 g2
      obtain ⟨rfl, rfl⟩ := num_right h3 (nose_bd g3)
      simp at r
      obtain ⟨rfl, rfl⟩ := num_right h4 r.1
      simp only [gE_y right0, gV_y right0]
      exact steer_ok R I S J N M a b k g1 g2 g3 r.1 r.2 w
  · simp only [gE_ck c, gV_ck c, lit0]
    exact steer_no _ _ _ _ _ _ _ _ _ _ hc c w
end Go.Proofs.Ytbgllbjkmjlipaa
