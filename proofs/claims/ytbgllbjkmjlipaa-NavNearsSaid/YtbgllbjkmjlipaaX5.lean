/- The walk of NavNears. -/
import Derived.Test.YtbgllbjkmjlipaaW8
namespace Go.Proofs.Ytbgllbjkmjlipaa
open Go.RowKit
attribute [local go_sem] fmt64
attribute [local go_sem ↓] st45
attribute [local go_sem] st45_run World.setRow_alloc_new rr45

theorem gEs_zero {ck : Int} {r : Bool} (h : gE ck r 0 0 = 0) : ck = 0 ∧ r = true := by
  by_cases c : ck = 0
  · subst c
    cases r with
    | false => rw [gE_r] at h; cases h
    | true => exact ⟨rfl, rfl⟩
  · rw [gE_ck c] at h; exact (c h).elim
theorem part16 (a b : Int) : partF a b 16 = b := by
  unfold partF
  rw [Int.mul_tdiv_cancel _ (by decide)]
  omega
theorem part00 (a b : Int) : partF a b 0 = a := by
  unfold partF
  rw [Int.mul_zero]
  simp
theorem cutF_zero (d k : Int) (hk : 0 ≤ k) : cutF d k = 0 ↔ d = 0 ∨ k = 0 := by
  unfold cutF
  split
  · omega
  · split <;> omega
theorem self_eq (n : Int) (hn : n.natAbs < 1048576) : Ieee.double.order (wd false n) (wd false n) = some .eq := by
  have := order_wd false false n n (by omega) (by omega)
  rwa [Int.compare_eq_eq.2 rfl] at this
theorem pair_eq (a b c d : Int) (ha : a.natAbs < 1048576) (hb : b.natAbs < 1048576) (hc : c.natAbs < 1048576) (hd : d.natAbs < 1048576) :
    ((Ieee.double.order (wd false a) (wd false c) == some .eq) && (Ieee.double.order (wd false b) (wd false d) == some .eq)) = decide (a = c ∧ b = d) := by
  rw [order_wd _ _ _ _ (by omega) (by omega), order_wd _ _ _ _ (by omega) (by omega), cmp_eq, cmp_eq, Bool.decide_and]
theorem lw_own {w W : World} {b : Nat} {t : TypeId} {cs cs' : Array Value} (h : LW w 0 [(b, t, cs)] W) (hb : w.heap.size ≤ b) : LW w 0 [(b, t, cs')] (W.setRow b cs') := by
  refine ⟨fun x hx => ?_, below_setRow h.below hb _, by simpa using h.size⟩
  obtain rfl := List.mem_singleton.1 hx
  exact setRow_heap W b cs cs' t (0, 0) (h.rows _ (List.mem_singleton.2 rfl))
theorem lw_sub {w W : World} {x : MRow} {L : List MRow} (h : LW w 0 L W) (hx : x ∈ L) : LW w 0 [x] W :=
  ⟨fun y hy => by obtain rfl := List.mem_singleton.1 hy; exact h.rows _ hx, h.below, h.size⟩

set_option maxRecDepth 100000 in
set_option maxHeartbeats 4000000 in
theorem navNears_walk (re0 im0 k0 re1 im1 k1 re2 im2 k2 re im kd mo : Int) (w : World) : Calls Try.prog 9 #[.agg #[.int .i64 re0, .int .i64 im0, .int .i64 k0, .int .i64 re1, .int .i64 im1, .int .i64 k1, .int .i64 re2, .int .i64 im2, .int .i64 k2], nb re im kd, .int .i64 mo] w fun e w' => e = .returned (.bool true) ∧ Below w.heap.size w w' := by
  have hp := pose_any re0 im0 k0 re1 im1 k1 re2 im2 k2
  have hv := value_any re im kd
  have L0 := ((LW.nil w).new 43 #[.int .i64 re0, .int .i64 im0, .int .i64 k0, .int .i64 re1, .int .i64 im1, .int .i64 k1, .int .i64 re2, .int .i64 im2, .int .i64 k2]).new 24 #[.int .i64 re, .int .i64 im, .int .i64 kd]
  generalize plR re0 im0 k0 = R at *
  generalize plI re0 im0 k0 = I at *
  generalize plR re1 im1 k1 = S at *
  generalize plI re1 im1 k1 = J at *
  generalize plR re2 im2 k2 = N at *
  generalize plI re2 im2 k2 = M at *
  generalize plR re im kd = a at *
  generalize plI re im kd = b at *
  have LL0 : Hid (LW w 0 [(w.heap.size + 1, 24, #[.int .i64 re, .int .i64 im, .int .i64 kd]), (w.heap.size, 43, #[.int .i64 re0, .int .i64 im0, .int .i64 k0, .int .i64 re1, .int .i64 im1, .int .i64 k1, .int .i64 re2, .int .i64 im2, .int .i64 k2])] ((w.alloc (.cells #[.int .i64 re0, .int .i64 im0, .int .i64 k0, .int .i64 re1, .int .i64 im1, .int .i64 k1, .int .i64 re2, .int .i64 im2, .int .i64 k2] 43)).alloc (.cells #[.int .i64 re, .int .i64 im, .int .i64 kd] 24))) := by
    rw [World.size_alloc] at L0; exact L0
  clear L0
  go_enter Try.func9, Try.ntmps9
  go_wp2_with fail
  refine (hp _).mono ?_
  rintro e w1 ⟨x1, y1, x2, y2, x3, y3, rfl, n1, n2, n3, hb⟩
  have Lw1 := Lib.hid (LL0.out.bel hb)
  have hw1 := Lib.hid (Lw1.out.below.size)
  clear hb LL0 
  have Lw1n := Lib.hid (Lw1.out.new 45 #[cx x1 y1, cx x2 y2, cx x3 y3])
  clear Lw1
  have f0 := Lw1n.out.cell (i := 0) (v := .int .i64 re) (List.mem_cons_of_mem _ (List.mem_cons_self ..)) rfl
  have f1 := Lw1n.out.cell (i := 1) (v := .int .i64 im) (List.mem_cons_of_mem _ (List.mem_cons_self ..)) rfl
  have f2 := Lw1n.out.cell (i := 2) (v := .int .i64 kd) (List.mem_cons_of_mem _ (List.mem_cons_self ..)) rfl
  go_wp2_with fail
  refine (hv _).mono ?_
  rintro e w2 ⟨x, y, rfl, n4, hb⟩
  have Lw2 := Lib.hid (Lw1n.out.bel hb)
  clear hb Lw1n f0 f1 f2
  have hst := steer_gen mo n1 n2 n3 n4
  clear hp hv
  obtain ⟨s1, hs1⟩ : ∃ x, gV (ckF R I S J N M) (rightB a b && decide (0 ≤ mo ∧ mo < 1048576)) 0 0 (cutF (a - R) mo) = x := ⟨_, rfl⟩
  rw [hs1] at hst
  obtain ⟨s2, hs2⟩ : ∃ x, gV (ckF R I S J N M) (rightB a b && decide (0 ≤ mo ∧ mo < 1048576)) 0 0 (cutF (b - I) mo) = x := ⟨_, rfl⟩
  rw [hs2] at hst
  obtain ⟨es, hes⟩ : ∃ x, gE (ckF R I S J N M) (rightB a b && decide (0 ≤ mo ∧ mo < 1048576)) 0 0 = x := ⟨_, rfl⟩
  rw [hes] at hst
  have N1 := Lib.hid n1
  have N2 := Lib.hid n2
  have N3 := Lib.hid n3
  have N4 := Lib.hid n4
  have HS1 := Lib.hid hs1
  have HS2 := Lib.hid hs2
  have HES := Lib.hid hes
  clear n1 n2 n3 n4 hs1 hs2 hes
  have f3 := Lw2.out.cell (i := 0) (v := cx x1 y1) (List.mem_cons_self ..) rfl
  have f4 := Lw2.out.cell (i := 1) (v := cx x2 y2) (List.mem_cons_self ..) rfl
  have f5 := Lw2.out.cell (i := 2) (v := cx x3 y3) (List.mem_cons_self ..) rfl
  go_wp2_with fail
  refine (hst _).mono ?_
  rintro e w3 ⟨rfl, hb⟩
  have Lw3 := Lib.hid (Lw2.out.bel hb)
  clear hb Lw2 f3 f4 f5
  clear hst
  by_cases he0 : ¬ es = 0
  · have z1 : s1 = 0 := by have h := HS1.out; unfold gV at h; rw [HES.out, if_neg he0] at h; exact h.symm
    have z2 : s2 = 0 := by have h := HS2.out; unfold gV at h; rw [HES.out, if_neg he0] at h; exact h.symm
    subst z1 z2
    have hz : Ieee.double.order (wd false 0) 0 = some .eq := by decide
    have hne : (es != 0) = true := by simp [bne, he0]
    clear he0 HS1 HS2 HES
    go_wp2_with fail
    refine (awake_any _).mono ?_
    rintro e wz ⟨rfl, hb⟩
    have Lwz := Lib.hid (Lw3.out.bel hb)
    clear hb Lw3 
    go_wp2
    go_ret
    exact ⟨rfl, Lwz.out.below⟩
  have he0 := Decidable.not_not.1 he0
  subst he0
  obtain ⟨hc, hrs⟩ := gEs_zero HES.out
  rw [Bool.and_eq_true, decide_eq_true_eq] at hrs
  obtain ⟨hab, hmo⟩ := hrs
  obtain ⟨g1, g2, g3⟩ := ck_zero hc
  obtain ⟨rfl, rfl⟩ := num_right N1.out g1
  obtain ⟨rfl, rfl⟩ := num_right N2.out g2
  obtain ⟨rfl, rfl⟩ := num_right N3.out (nose_bd g3)
  obtain ⟨rfl, rfl⟩ := num_right N4.out hab
  have LQ : Hid (LW w 0 [(w1.heap.size, 45, #[cx (wd false R) (wd false I), cx (wd false S) (wd false J), cx (wd false N) (wd false M)])] w3) := Lib.hid (lw_sub Lw3.out (List.mem_cons_self ..))
  clear Lw3 N1 N2 N3 N4 HS1 HS2 HES hc
  have HAB := Lib.hid hab
  have HMO := Lib.hid hmo
  have HN3 := Lib.hid g3
  have G1 := Lib.hid g1
  have G2 := Lib.hid g2
  clear hab hmo g1 g2 g3
  go_wp2
  go_loopw [11] (fun i wr => ∃ (k : Nat) (P Q S J : Int), k ≤ 20 ∧ i = .int .i64 k ∧ Hid (rightB P Q = true) ∧ Hid (rightB S J = true) ∧ Hid (LW w 0 [(w1.heap.size, 45, #[cx (wd false P) (wd false Q), cx (wd false S) (wd false J), cx (wd false N) (wd false M)])] wr)) (fun i _ => 20 - (intOf i).toNat)
  case atStart => exact ⟨0, R, I, S, J, by omega, rfl, G1, G2, LQ⟩
  case round =>
    clear LQ G1 G2
    obtain ⟨k, P, Q, S, J, hk, rfl, HPQ, HSJ, HL⟩ := hrel
    by_cases hlt : k < 20
    · have gp := right_bd HPQ.out
      have ga := right_bd HAB.out
      have gn := right_bd (nose_bd HN3.out)
      have hm := HMO.out
      have hst := steer_ok P Q S J N M a b mo HPQ.out HSJ.out HN3.out HAB.out HMO.out
      have hto := toward_any P Q a b mo HPQ.out HAB.out HMO.out
      have cb1 := cut_between P a mo hm.1 gp.1 ga.1
      have cb2 := cut_between Q b mo hm.1 gp.2 ga.2
      have cz1 := cutF_zero (a - P) mo hm.1
      have cz2 := cutF_zero (b - Q) mo hm.1
      have cx1 : (cutF (a - P) mo).natAbs < 1048576 := by unfold cutF; split <;> (try split) <;> omega
      have cx2 : (cutF (b - Q) mo).natAbs < 1048576 := by unfold cutF; split <;> (try split) <;> omega
      generalize cutF (a - P) mo = X at *
      generalize cutF (b - Q) mo = Y at *
      have rxy : rightB X Y = true := decide_eq_true (by omega)
      have rpq : rightB (P + X) (Q + Y) = true := decide_eq_true (by omega)
      have hdr := drift_ok P Q X Y N M HPQ.out rxy HN3.out
      rw [rpq, if_pos rfl] at hdr
      have o1 := self_eq (P + X) cb1
      have o2 := self_eq (Q + Y) cb2
      have o3 := self_eq X cx1
      have o4 := self_eq Y cx2
      have o5 := self_eq N gn.1
      have o6 := self_eq M gn.2
      have e94 := pair_eq X Y 0 0 cx1 cx2 (by decide) (by decide)
      have e98 := pair_eq P Q a b gp.1 gp.2 ga.1 ga.2
      rw [lit0] at e94
      have RPQ := Lib.hid rpq
      have RXY := Lib.hid rxy
      have HW1 := hw1.out
      clear rpq rxy cb1 cb2 cx1 cx2 gp ga gn hm
      obtain ⟨v94, h94⟩ : ∃ v, decide (X = 0 ∧ Y = 0) = v := ⟨_, rfl⟩
      obtain ⟨v98, h98⟩ : ∃ v, decide (P = a ∧ Q = b) = v := ⟨_, rfl⟩
      obtain ⟨vmo, hvmo⟩ : ∃ v, decide (mo = 0) = v := ⟨_, rfl⟩
      have HV : Hid (v94 = (v98 || vmo)) := Lib.hid (by rw [← h94, ← h98, ← hvmo, ← Bool.decide_or]; congr 1; exact propext (by rw [cz1, cz2]; omega))
      have emo : (mo == 0) = vmo := by rw [← hvmo]; rw [Bool.eq_iff_iff, beq_iff_eq, decide_eq_true_eq]
      rw [h94] at e94
      rw [h98] at e98
      clear h94 h98 hvmo cz1 cz2
      have f0 := HL.out.cell (i := 0) (v := cx (wd false P) (wd false Q)) (List.mem_cons_self ..) rfl
      have f1 := HL.out.cell (i := 1) (v := cx (wd false S) (wd false J)) (List.mem_cons_self ..) rfl
      have f2 := HL.out.cell (i := 2) (v := cx (wd false N) (wd false M)) (List.mem_cons_self ..) rfl
      go_wp2_with fail
      refine (hst _).mono ?_
      rintro e w4 ⟨rfl, hb⟩
      have Lw4 := Lib.hid (HL.out.bel hb)
      clear hb HL f0 f1 f2
      have f3 := Lw4.out.cell (i := 0) (v := cx (wd false P) (wd false Q)) (List.mem_cons_self ..) rfl
      have f4 := Lw4.out.cell (i := 1) (v := cx (wd false S) (wd false J)) (List.mem_cons_self ..) rfl
      have f5 := Lw4.out.cell (i := 2) (v := cx (wd false N) (wd false M)) (List.mem_cons_self ..) rfl
      go_wp2_with fail
      refine (hto _).mono ?_
      rintro e w5 ⟨rfl, hb⟩
      have Lw5 := Lib.hid (Lw4.out.bel hb)
      clear hb Lw4 f3 f4 f5
      have f6 := Lw5.out.cell (i := 0) (v := cx (wd false P) (wd false Q)) (List.mem_cons_self ..) rfl
      have f7 := Lw5.out.cell (i := 1) (v := cx (wd false S) (wd false J)) (List.mem_cons_self ..) rfl
      have f8 := Lw5.out.cell (i := 2) (v := cx (wd false N) (wd false M)) (List.mem_cons_self ..) rfl
      go_wp2_with fail
      refine (hdr _).mono ?_
      rintro e w6 ⟨rfl, hb⟩
      have Lw6 := Lib.hid (Lw5.out.bel hb)
      clear hb Lw5 f6 f7 f8
      have Lw6n := Lib.hid (Lw6.out.new 45 #[cx (wd false (P + X)) (wd false (Q + Y)), cx (wd false X) (wd false Y), cx (wd false N) (wd false M)])
      clear Lw6
      clear hst hto hdr
      have f9 := Lw6n.out.cell (i := 0) (v := cx (wd false (P + X)) (wd false (Q + Y))) (List.mem_cons_self ..) rfl
      have f10 := Lw6n.out.cell (i := 1) (v := cx (wd false X) (wd false Y)) (List.mem_cons_self ..) rfl
      have f11 := Lw6n.out.cell (i := 2) (v := cx (wd false N) (wd false M)) (List.mem_cons_self ..) rfl
      have f12 := Lw6n.out.cell (i := 0) (v := cx (wd false P) (wd false Q)) (List.mem_cons_of_mem _ (List.mem_cons_self ..)) rfl
      have f13 := Lw6n.out.cell (i := 1) (v := cx (wd false S) (wd false J)) (List.mem_cons_of_mem _ (List.mem_cons_self ..)) rfl
      have f14 := Lw6n.out.cell (i := 2) (v := cx (wd false N) (wd false M)) (List.mem_cons_of_mem _ (List.mem_cons_self ..)) rfl
      have hrr : RR w1.heap.size 3 45 (w6.alloc (.cells #[cx (wd false (P + X)) (wd false (Q + Y)), cx (wd false X) (wd false Y), cx (wd false N) (wd false M)] 45)) := ⟨_, rfl, Lw6n.out.row (List.mem_cons_of_mem _ (List.mem_cons_self ..))⟩
      have LZ := Lib.hid (lw_own (cs' := #[cx (wd false (P + X)) (wd false (Q + Y)), cx (wd false X) (wd false Y), cx (wd false N) (wd false M)]) (lw_sub (x := (w1.heap.size, 45, #[cx (wd false P) (wd false Q), cx (wd false S) (wd false J), cx (wd false N) (wd false M)])) Lw6n.out (List.mem_cons_of_mem _ (List.mem_cons_self ..))) HW1)
      cases v98 with
      | false =>
        cases vmo with
        | false =>
          obtain rfl : v94 = false := HV.out
          go_wp2
          go_roundw
          case rel => exact ⟨k + 1, P + X, Q + Y, X, Y, by omega, by go_num, RPQ, RXY, LZ⟩
          case measure => simp [intOf]; omega
        | true =>
          obtain rfl : v94 = true := HV.out
          go_wp2
          go_roundw
          case rel => exact ⟨k + 1, P + X, Q + Y, X, Y, by omega, by go_num, RPQ, RXY, LZ⟩
          case measure => simp [intOf]; omega
      | true =>
        cases vmo with
        | false =>
          obtain rfl : v94 = true := HV.out
          go_wp2
          go_roundw
          case rel => exact ⟨k + 1, P + X, Q + Y, X, Y, by omega, by go_num, RPQ, RXY, LZ⟩
          case measure => simp [intOf]; omega
        | true =>
          obtain rfl : v94 = true := HV.out
          go_wp2
          go_roundw
          case rel => exact ⟨k + 1, P + X, Q + Y, X, Y, by omega, by go_num, RPQ, RXY, LZ⟩
          case measure => simp [intOf]; omega
    · obtain rfl : k = 20 := by omega
      have gp := right_bd HPQ.out
      have ga := right_bd HAB.out
      have hb1 := blend_ok P Q S J N M a b 16 HPQ.out HSJ.out HN3.out HAB.out (by decide)
      have hb2 := blend_ok P Q S J N M a b 0 HPQ.out HSJ.out HN3.out HAB.out (by decide)
      rw [part16, part16] at hb1
      rw [part00, part00] at hb2
      have o1 := self_eq a ga.1
      have o2 := self_eq b ga.2
      have o3 := self_eq P gp.1
      have o4 := self_eq Q gp.2
      clear gp ga hlt hk
      have f0 := HL.out.cell (i := 0) (v := cx (wd false P) (wd false Q)) (List.mem_cons_self ..) rfl
      have f1 := HL.out.cell (i := 1) (v := cx (wd false S) (wd false J)) (List.mem_cons_self ..) rfl
      have f2 := HL.out.cell (i := 2) (v := cx (wd false N) (wd false M)) (List.mem_cons_self ..) rfl
      go_wp2_with fail
      refine (hb1 _).mono ?_
      rintro e w4 ⟨rfl, hb⟩
      have Lw4 := Lib.hid (HL.out.bel hb)
      clear hb HL f0 f1 f2
      have Lw4n := Lib.hid (Lw4.out.new 45 #[cx (wd false a) (wd false b), cx (wd false S) (wd false J), cx (wd false N) (wd false M)])
      clear Lw4
      have f3 := Lw4n.out.cell (i := 0) (v := cx (wd false P) (wd false Q)) (List.mem_cons_of_mem _ (List.mem_cons_self ..)) rfl
      have f4 := Lw4n.out.cell (i := 1) (v := cx (wd false S) (wd false J)) (List.mem_cons_of_mem _ (List.mem_cons_self ..)) rfl
      have f5 := Lw4n.out.cell (i := 2) (v := cx (wd false N) (wd false M)) (List.mem_cons_of_mem _ (List.mem_cons_self ..)) rfl
      go_wp2_with fail
      refine (hb2 _).mono ?_
      rintro e w5 ⟨rfl, hb⟩
      have Lw5 := Lib.hid (Lw4n.out.bel hb)
      clear hb Lw4n f3 f4 f5
      have Lw5n := Lib.hid (Lw5.out.new 45 #[cx (wd false P) (wd false Q), cx (wd false S) (wd false J), cx (wd false N) (wd false M)])
      clear Lw5
      have f6 := Lw5n.out.cell (i := 0) (v := cx (wd false a) (wd false b)) (List.mem_cons_of_mem _ (List.mem_cons_self ..)) rfl
      have f7 := Lw5n.out.cell (i := 1) (v := cx (wd false S) (wd false J)) (List.mem_cons_of_mem _ (List.mem_cons_self ..)) rfl
      have f8 := Lw5n.out.cell (i := 2) (v := cx (wd false N) (wd false M)) (List.mem_cons_of_mem _ (List.mem_cons_self ..)) rfl
      have f9 := Lw5n.out.cell (i := 0) (v := cx (wd false P) (wd false Q)) (List.mem_cons_self ..) rfl
      have f10 := Lw5n.out.cell (i := 1) (v := cx (wd false S) (wd false J)) (List.mem_cons_self ..) rfl
      have f11 := Lw5n.out.cell (i := 2) (v := cx (wd false N) (wd false M)) (List.mem_cons_self ..) rfl
      have f12 := Lw5n.out.cell (i := 0) (v := cx (wd false P) (wd false Q)) (List.mem_cons_of_mem _ (List.mem_cons_of_mem _ (List.mem_cons_self ..))) rfl
      have f13 := Lw5n.out.cell (i := 1) (v := cx (wd false S) (wd false J)) (List.mem_cons_of_mem _ (List.mem_cons_of_mem _ (List.mem_cons_self ..))) rfl
      have f14 := Lw5n.out.cell (i := 2) (v := cx (wd false N) (wd false M)) (List.mem_cons_of_mem _ (List.mem_cons_of_mem _ (List.mem_cons_self ..))) rfl
      go_wp2_with fail
      refine (awake_any _).mono ?_
      rintro e wz ⟨rfl, hb⟩
      have Lwz := Lib.hid (Lw5n.out.bel hb)
      clear hb Lw5n f6 f7 f8 f9 f10 f11 f12 f13 f14
      go_wp2
      go_ret
      exact ⟨rfl, Lwz.out.below⟩
end Go.Proofs.Ytbgllbjkmjlipaa
