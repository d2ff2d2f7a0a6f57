/- The walk of NavBacks. -/
import Derived.Test.YtbgllbjkmjlipaaW
namespace Go.Proofs.Ytbgllbjkmjlipaa
open Go.RowKit
attribute [local go_sem] fmt64
attribute [local go_sem ↓] st45
attribute [local go_sem] st45_run World.setRow_alloc_new rr45

theorem nose_cases {N M : Int} (h : noseB N M = true) : (N = 0 ∧ M = 1) ∨ (N = 0 ∧ M = -1) ∨ (N = 1 ∧ M = 0) ∨ (N = -1 ∧ M = 0) := by
  have := of_decide_eq_true h
  omega
theorem world_back {R I N M a b : Int} (h : noseB N M = true) : wX R I N M (bX R I N M a b) (bY R I N M a b) = a ∧ wY R I N M (bX R I N M a b) (bY R I N M a b) = b := by
  rcases nose_cases h with ⟨rfl, rfl⟩ | ⟨rfl, rfl⟩ | ⟨rfl, rfl⟩ | ⟨rfl, rfl⟩ <;> simp [bX, bY, wX, wY] <;> omega
theorem body_back {R I N M a b : Int} (h : noseB N M = true) : bX R I N M (wX R I N M a b) (wY R I N M a b) = a ∧ bY R I N M (wX R I N M a b) (wY R I N M a b) = b := by
  rcases nose_cases h with ⟨rfl, rfl⟩ | ⟨rfl, rfl⟩ | ⟨rfl, rfl⟩ | ⟨rfl, rfl⟩ <;> simp [bX, bY, wX, wY] <;> omega
theorem sq_neg' {x y : Int} (h : x = -y) : x * x = y * y := by rw [h, Int.neg_mul_neg]
theorem norm_back {R I N M a b c d : Int} (h : noseB N M = true) :
    (bX R I N M a b - bX R I N M c d) * (bX R I N M a b - bX R I N M c d) + (bY R I N M a b - bY R I N M c d) * (bY R I N M a b - bY R I N M c d) = (a - c) * (a - c) + (b - d) * (b - d) := by
  rcases nose_cases h with ⟨rfl, rfl⟩ | ⟨rfl, rfl⟩ | ⟨rfl, rfl⟩ | ⟨rfl, rfl⟩
  · rw [show bX R I 0 1 a b - bX R I 0 1 c d = b - d by simp [bX] <;> omega, sq_neg' (show bY R I 0 1 a b - bY R I 0 1 c d = -(a - c) by simp [bY] <;> omega), Int.add_comm]
  · rw [sq_neg' (show bX R I 0 (-1) a b - bX R I 0 (-1) c d = -(b - d) by simp [bX] <;> omega), show bY R I 0 (-1) a b - bY R I 0 (-1) c d = a - c by simp [bY] <;> omega, Int.add_comm]
  · rw [show bX R I 1 0 a b - bX R I 1 0 c d = a - c by simp [bX] <;> omega, show bY R I 1 0 a b - bY R I 1 0 c d = b - d by simp [bY] <;> omega]
  · rw [sq_neg' (show bX R I (-1) 0 a b - bX R I (-1) 0 c d = -(a - c) by simp [bX] <;> omega), sq_neg' (show bY R I (-1) 0 a b - bY R I (-1) 0 c d = -(b - d) by simp [bY] <;> omega)]
theorem gE_zero {r : Bool} {X Y : Int} (h : gE 0 r X Y = 0) : r = true ∧ rightB X Y = true := by
  cases r with
  | false => rw [gE_r] at h; cases h
  | true =>
    cases c : rightB X Y with
    | true => exact ⟨rfl, rfl⟩
    | false => rw [gE_n c] at h; cases h
/-- World brings back what Body told. -/
theorem world_of_body {x1 y1 x2 y2 x3 y3 : Nat} {R I S J N M a b : Int} (h1 : Num x1 y1 R I) (h2 : Num x2 y2 S J) (h3 : Num x3 y3 N M) (hc : ckF R I S J N M = 0) (ha : rightB a b = true) (hX : rightB (bX R I N M a b) (bY R I N M a b) = true) (w : World) :
    Calls Try.prog 22 #[ps x1 y1 x2 y2 x3 y3, cx (wd false (bX R I N M a b)) (wd false (bY R I N M a b))] w fun e w' => e = .returned (pairC (wd false a) (wd false b) 0) ∧ Below w.heap.size w w' := by
  have h := world_gen h1 h2 h3 (.inl ⟨hX, rfl, rfl⟩) w
  obtain ⟨e1, e2⟩ := world_back (R := R) (I := I) (a := a) (b := b) (ck_zero hc).2.2
  rw [hc, hX, e1, e2, gE_y ha, gV_y ha, gV_y ha] at h
  exact h
theorem body_of_world {x1 y1 x2 y2 x3 y3 : Nat} {R I S J N M a b : Int} (h1 : Num x1 y1 R I) (h2 : Num x2 y2 S J) (h3 : Num x3 y3 N M) (hc : ckF R I S J N M = 0) (ha : rightB a b = true) (hX : rightB (wX R I N M a b) (wY R I N M a b) = true) (w : World) :
    Calls Try.prog 21 #[ps x1 y1 x2 y2 x3 y3, cx (wd false (wX R I N M a b)) (wd false (wY R I N M a b))] w fun e w' => e = .returned (pairC (wd false a) (wd false b) 0) ∧ Below w.heap.size w w' := by
  have h := body_gen h1 h2 h3 (.inl ⟨hX, rfl, rfl⟩) w
  obtain ⟨e1, e2⟩ := body_back (R := R) (I := I) (a := a) (b := b) (ck_zero hc).2.2
  rw [hc, hX, e1, e2, gE_y ha, gV_y ha, gV_y ha] at h
  exact h
theorem run_fadd (z y : Bool) (a c : Int) (ha : a.natAbs < 1125899906842624) (hc : c.natAbs < 1125899906842624) (w : World) : (binOp .add 59 (.float .f64 (wd z a)) (.float .f64 (wd y c))).run Try.prog w = .ok (.float .f64 (wd (decide (a = 0) && z && y) (a + c))) w :=
  run_float_arith w .add 59 .f64 _ _ _ (add_wd z y a c (by omega) (by omega) (by omega))
set_option maxRecDepth 100000 in
set_option maxHeartbeats 2000000 in
theorem navBacks_walk (re0 im0 k0 re1 im1 k1 re2 im2 k2 ra ia ka rb ib kb : Int) (w : World) : Calls Try.prog 5 #[.agg #[.int .i64 re0, .int .i64 im0, .int .i64 k0, .int .i64 re1, .int .i64 im1, .int .i64 k1, .int .i64 re2, .int .i64 im2, .int .i64 k2], .agg #[.int .i64 ra, .int .i64 ia, .int .i64 ka, .int .i64 rb, .int .i64 ib, .int .i64 kb]] w fun e w' => e = .returned (.bool true) ∧ Below w.heap.size w w' := by
  have hp := pose_any re0 im0 k0 re1 im1 k1 re2 im2 k2
  have hva := value_any ra ia ka
  have hvb := value_any rb ib kb
  have L0 := ((LW.nil w).new 43 #[.int .i64 re0, .int .i64 im0, .int .i64 k0, .int .i64 re1, .int .i64 im1, .int .i64 k1, .int .i64 re2, .int .i64 im2, .int .i64 k2]).new 57 #[.int .i64 ra, .int .i64 ia, .int .i64 ka, .int .i64 rb, .int .i64 ib, .int .i64 kb]
  generalize plR re0 im0 k0 = R at *
  generalize plI re0 im0 k0 = I at *
  generalize plR re1 im1 k1 = S at *
  generalize plI re1 im1 k1 = J at *
  generalize plR re2 im2 k2 = N at *
  generalize plI re2 im2 k2 = M at *
  generalize plR ra ia ka = a at *
  generalize plI ra ia ka = b at *
  generalize plR rb ib kb = c at *
  generalize plI rb ib kb = d at *
  have LL0 : Hid (LW w 0 [(w.heap.size + 1, 57, #[.int .i64 ra, .int .i64 ia, .int .i64 ka, .int .i64 rb, .int .i64 ib, .int .i64 kb]), (w.heap.size, 43, #[.int .i64 re0, .int .i64 im0, .int .i64 k0, .int .i64 re1, .int .i64 im1, .int .i64 k1, .int .i64 re2, .int .i64 im2, .int .i64 k2])] ((w.alloc (.cells #[.int .i64 re0, .int .i64 im0, .int .i64 k0, .int .i64 re1, .int .i64 im1, .int .i64 k1, .int .i64 re2, .int .i64 im2, .int .i64 k2] 43)).alloc (.cells #[.int .i64 ra, .int .i64 ia, .int .i64 ka, .int .i64 rb, .int .i64 ib, .int .i64 kb] 57))) := by
    rw [World.size_alloc] at L0; exact L0
  clear L0
  go_enter Try.func5, Try.ntmps5
  go_wp2_with fail
  refine (hp _).mono ?_
  rintro e w1 ⟨x1, y1, x2, y2, x3, y3, rfl, n1, n2, n3, hb1⟩
  have hck := check_any _ _ _ _ _ _ _ _ _ _ _ _ n1 n2 n3
  have LL1 := Lib.hid ((LL0.out.bel hb1).new 45 #[cx x1 y1, cx x2 y2, cx x3 y3])
  clear hb1 LL0 hp
  go_wp2_with fail
  refine (hck _).mono ?_
  rintro e w2 ⟨rfl, hb⟩
  have Lw2 := Lib.hid (LL1.out.bel hb)
  clear hb LL1 
  by_cases hc : ¬ ckF R I S J N M = 0
  · have hne : (ckF R I S J N M != 0) = true := by simp [bne, hc]
    generalize ckF R I S J N M = k at *
    clear hc
    go_wp2_with fail
    refine (awake_any _).mono ?_
    rintro e wz ⟨rfl, hb⟩
    have Lwz := Lib.hid (Lw2.out.bel hb)
    clear hb Lw2 
    go_wp2
    go_ret
    exact ⟨rfl, Lwz.out.below⟩
  have hc := Decidable.not_not.1 hc
  rw [hc]
  have hwb := fun h1 h2 => world_of_body (a := a) (b := b) n1 n2 n3 hc h1 h2
  have hbw := fun h1 h2 => body_of_world (a := c) (b := d) n1 n2 n3 hc h1 h2
  have hnose := Lib.hid (ck_zero hc).2.2
  have hB : ∀ x y a b, Num x y a b → ∀ w, _ := fun x y a b h w => body_gen (x := x) (y := y) (a := a) (b := b) n1 n2 n3 h w
  have hW : ∀ x y a b, Num x y a b → ∀ w, _ := fun x y a b h w => world_gen (x := x) (y := y) (a := a) (b := b) n1 n2 n3 h w
  rw [hc] at hB hW
  clear hc hck
  have f0 := Lw2.out.cell (i := 0) (v := .int .i64 ra) (List.mem_cons_of_mem _ (List.mem_cons_self ..)) rfl
  have f1 := Lw2.out.cell (i := 1) (v := .int .i64 ia) (List.mem_cons_of_mem _ (List.mem_cons_self ..)) rfl
  have f2 := Lw2.out.cell (i := 2) (v := .int .i64 ka) (List.mem_cons_of_mem _ (List.mem_cons_self ..)) rfl
  go_wp2_with fail
  refine (hva _).mono ?_
  rintro e w3 ⟨xa, ya, rfl, na, hb⟩
  have Lw3 := Lib.hid (Lw2.out.bel hb)
  clear hb Lw2 f0 f1 f2
  have f3 := Lw3.out.cell (i := 3) (v := .int .i64 rb) (List.mem_cons_of_mem _ (List.mem_cons_self ..)) rfl
  have f4 := Lw3.out.cell (i := 4) (v := .int .i64 ib) (List.mem_cons_of_mem _ (List.mem_cons_self ..)) rfl
  have f5 := Lw3.out.cell (i := 5) (v := .int .i64 kb) (List.mem_cons_of_mem _ (List.mem_cons_self ..)) rfl
  go_wp2_with fail
  refine (hvb _).mono ?_
  rintro e w4 ⟨xb, yb, rfl, nb_, hb⟩
  have Lw4 := Lib.hid (Lw3.out.bel hb)
  clear hb Lw3 f3 f4 f5
  have hBa := hB _ _ _ _ na
  have hBb := hB _ _ _ _ nb_
  have hWb := hW _ _ _ _ nb_
  clear hB hW
  have NA := Lib.hid na
  have NB := Lib.hid nb_
  clear na nb_ n1 n2 n3
  obtain ⟨pa, hpa⟩ : ∃ x, gV 0 (rightB a b) (bX R I N M a b) (bY R I N M a b) (bX R I N M a b) = x := ⟨_, rfl⟩
  rw [hpa] at hBa
  have Hpa := Lib.hid hpa
  clear hpa
  obtain ⟨qa, hqa⟩ : ∃ x, gV 0 (rightB a b) (bX R I N M a b) (bY R I N M a b) (bY R I N M a b) = x := ⟨_, rfl⟩
  rw [hqa] at hBa
  have Hqa := Lib.hid hqa
  clear hqa
  obtain ⟨ea, hea⟩ : ∃ x, gE 0 (rightB a b) (bX R I N M a b) (bY R I N M a b)  = x := ⟨_, rfl⟩
  rw [hea] at hBa
  have Hea := Lib.hid hea
  clear hea
  obtain ⟨pb, hpb⟩ : ∃ x, gV 0 (rightB c d) (bX R I N M c d) (bY R I N M c d) (bX R I N M c d) = x := ⟨_, rfl⟩
  rw [hpb] at hBb
  have Hpb := Lib.hid hpb
  clear hpb
  obtain ⟨qb, hqb⟩ : ∃ x, gV 0 (rightB c d) (bX R I N M c d) (bY R I N M c d) (bY R I N M c d) = x := ⟨_, rfl⟩
  rw [hqb] at hBb
  have Hqb := Lib.hid hqb
  clear hqb
  obtain ⟨eb, heb⟩ : ∃ x, gE 0 (rightB c d) (bX R I N M c d) (bY R I N M c d)  = x := ⟨_, rfl⟩
  rw [heb] at hBb
  have Heb := Lib.hid heb
  clear heb
  obtain ⟨pg, hpg⟩ : ∃ x, gV 0 (rightB c d) (wX R I N M c d) (wY R I N M c d) (wX R I N M c d) = x := ⟨_, rfl⟩
  rw [hpg] at hWb
  have Hpg := Lib.hid hpg
  clear hpg
  obtain ⟨qg, hqg⟩ : ∃ x, gV 0 (rightB c d) (wX R I N M c d) (wY R I N M c d) (wY R I N M c d) = x := ⟨_, rfl⟩
  rw [hqg] at hWb
  have Hqg := Lib.hid hqg
  clear hqg
  obtain ⟨eg, heg⟩ : ∃ x, gE 0 (rightB c d) (wX R I N M c d) (wY R I N M c d)  = x := ⟨_, rfl⟩
  rw [heg] at hWb
  have Heg := Lib.hid heg
  clear heg
  have f6 := Lw4.out.cell (i := 0) (v := cx x1 y1) (List.mem_cons_self ..) rfl
  have f7 := Lw4.out.cell (i := 1) (v := cx x2 y2) (List.mem_cons_self ..) rfl
  have f8 := Lw4.out.cell (i := 2) (v := cx x3 y3) (List.mem_cons_self ..) rfl
  go_wp2_with fail
  refine (hBa _).mono ?_
  rintro e w5 ⟨rfl, hb⟩
  have Lw5 := Lib.hid (Lw4.out.bel hb)
  clear hb Lw4 f6 f7 f8
  have f9 := Lw5.out.cell (i := 0) (v := cx x1 y1) (List.mem_cons_self ..) rfl
  have f10 := Lw5.out.cell (i := 1) (v := cx x2 y2) (List.mem_cons_self ..) rfl
  have f11 := Lw5.out.cell (i := 2) (v := cx x3 y3) (List.mem_cons_self ..) rfl
  go_wp2_with fail
  refine (hBb _).mono ?_
  rintro e w6 ⟨rfl, hb⟩
  have Lw6 := Lib.hid (Lw5.out.bel hb)
  clear hb Lw5 f9 f10 f11
  clear hBa hBb hva hvb
  by_cases ha0 : ea = 0
  · rw [ha0] at Hea
    obtain ⟨hra, hXa⟩ := gE_zero Hea.out
    have pa_ := Hpa.out
    have qa_ := Hqa.out
    rw [hra, gV_y hXa] at pa_ qa_
    subst pa_
    subst qa_
    subst ha0
    obtain ⟨rfl, rfl⟩ := num_right NA.out hra
    have hwb := hwb hra hXa
    have oa := order_wd false false a a (by have := right_bd hra; omega) (by have := right_bd hra; omega)
    have ob := order_wd false false b b (by have := right_bd hra; omega) (by have := right_bd hra; omega)
    rw [Int.compare_eq_eq.2 rfl] at oa ob
    have HRA := Lib.hid hra
    have HXA := Lib.hid hXa
    clear hra hXa Hpa Hqa Hea
    have f0 := Lw6.out.cell (i := 0) (v := cx x1 y1) (List.mem_cons_self ..) rfl
    have f1 := Lw6.out.cell (i := 1) (v := cx x2 y2) (List.mem_cons_self ..) rfl
    have f2 := Lw6.out.cell (i := 2) (v := cx x3 y3) (List.mem_cons_self ..) rfl
    go_wp2_with fail
    refine (hwb _).mono ?_
    rintro e w7 ⟨rfl, hb⟩
    have Lw7 := Lib.hid (Lw6.out.bel hb)
    clear hb Lw6 f0 f1 f2
    clear hwb
    have f3 := Lw7.out.cell (i := 0) (v := cx x1 y1) (List.mem_cons_self ..) rfl
    have f4 := Lw7.out.cell (i := 1) (v := cx x2 y2) (List.mem_cons_self ..) rfl
    have f5 := Lw7.out.cell (i := 2) (v := cx x3 y3) (List.mem_cons_self ..) rfl
    go_wp2_with fail
    refine (hWb _).mono ?_
    rintro e w8 ⟨rfl, hb⟩
    have Lw8 := Lib.hid (Lw7.out.bel hb)
    clear hb Lw7 f3 f4 f5
    clear hWb oa ob
    by_cases hg0 : eg = 0
    · rw [hg0] at Heg
      obtain ⟨hrb, hXb⟩ := gE_zero Heg.out
      have pg_ := Hpg.out
      have qg_ := Hqg.out
      rw [hrb, gV_y hXb] at pg_ qg_
      subst pg_
      subst qg_
      subst hg0
      have NB2 := num_right NB.out hrb
      obtain ⟨rfl, rfl⟩ := NB2
      have hbw := hbw hrb hXb
      have oc := order_wd false false c c (by have := right_bd hrb; omega) (by have := right_bd hrb; omega)
      have od := order_wd false false d d (by have := right_bd hrb; omega) (by have := right_bd hrb; omega)
      rw [Int.compare_eq_eq.2 rfl] at oc od
      clear hrb hXb Hpg Hqg Heg
      have f0 := Lw8.out.cell (i := 0) (v := cx x1 y1) (List.mem_cons_self ..) rfl
      have f1 := Lw8.out.cell (i := 1) (v := cx x2 y2) (List.mem_cons_self ..) rfl
      have f2 := Lw8.out.cell (i := 2) (v := cx x3 y3) (List.mem_cons_self ..) rfl
      go_wp2_with fail
      refine (hbw _).mono ?_
      rintro e w9 ⟨rfl, hb⟩
      have Lw9 := Lib.hid (Lw8.out.bel hb)
      clear hb Lw8 f0 f1 f2
      clear hbw
      by_cases hb0 : eb = 0
      · rw [hb0] at Heb
        obtain ⟨hrb, hXb⟩ := gE_zero Heb.out
        have pb_ := Hpb.out
        have qb_ := Hqb.out
        rw [hrb, gV_y hXb] at pb_ qb_
        subst pb_
        subst qb_
        subst hb0
        have r1 := right_bd HRA.out
        have r2 := right_bd HXA.out
        have r3 := right_bd hrb
        have r4 := right_bd hXb
        have hnb := norm_back (R := R) (I := I) (a := a) (b := b) (c := c) (d := d) hnose.out
        clear Hpb Hqb Heb hrb hXb HRA HXA NA NB hnose
        obtain ⟨X1, hX1⟩ : ∃ x, bX R I N M a b = x := ⟨_, rfl⟩
        obtain ⟨Y1, hY1⟩ : ∃ x, bY R I N M a b = x := ⟨_, rfl⟩
        obtain ⟨X2, hX2⟩ : ∃ x, bX R I N M c d = x := ⟨_, rfl⟩
        obtain ⟨Y2, hY2⟩ : ∃ x, bY R I N M c d = x := ⟨_, rfl⟩
        rw [hX1, hY1] at r2
        rw [hX2, hY2] at r4
        rw [hX1, hY1, hX2, hY2] at hnb
        rw [hX1, hY1, hX2, hY2]
        clear hX1 hY1 hX2 hY2
        obtain ⟨s1, t1, hs1⟩ := cSum_sub false false false false X1 Y1 X2 Y2 (by omega) (by omega) (by omega) (by omega)
        obtain ⟨s2, t2, hs2⟩ := cSum_sub false false false false a b c d (by omega) (by omega) (by omega) (by omega)
        have rs1 : ∀ w, (binOp .sub 31 (.complex .f64 (wd false X1) (wd false Y1)) (.complex .f64 (wd false X2) (wd false Y2))).run Try.prog w = .ok (.complex .f64 (wd s1 (X1 - X2)) (wd t1 (Y1 - Y2))) w := fun w => run_complex_sum w .sub (.inr rfl) 31 .f64 _ _ _ _ _ _ hs1
        have rs2 : ∀ w, (binOp .sub 31 (.complex .f64 (wd false a) (wd false b)) (.complex .f64 (wd false c) (wd false d))).run Try.prog w = .ok (.complex .f64 (wd s2 (a - c)) (wd t2 (b - d))) w := fun w => run_complex_sum w .sub (.inr rfl) 31 .f64 _ _ _ _ _ _ hs2
        have m1 : (X1 - X2).natAbs < 4194304 := by omega
        have m2 : (Y1 - Y2).natAbs < 4194304 := by omega
        have m3 : (a - c).natAbs < 4194304 := by omega
        have m4 : (b - d).natAbs < 4194304 := by omega
        clear hs1 hs2 r1 r2 r3 r4
        generalize X1 - X2 = A at *
        generalize Y1 - Y2 = B at *
        generalize a - c = C at *
        generalize b - d = D at *
        have q0 := run_fmul s1 s1 A A m1 m1
        have k0_ := mul_bd m1 m1
        have q1 := run_fmul t1 t1 B B m2 m2
        have k1_ := mul_bd m2 m2
        have q2 := run_fmul s2 s2 C C m3 m3
        have k2_ := mul_bd m3 m3
        have q3 := run_fmul t2 t2 D D m4 m4
        have k3_ := mul_bd m4 m4
        have u1 := run_fadd false false (A * A) (B * B) (by omega) (by omega)
        have u2 := run_fadd false false (C * C) (D * D) (by omega) (by omega)
        have oo := fun z z' => order_wd z z' (A * A + B * B) (C * C + D * D) (by omega) (by omega)
        rw [Int.compare_eq_eq.2 hnb] at oo
        clear hnb m1 m2 m3 m4 k0_ k1_ k2_ k3_
        go_wp2_with fail
        refine (awake_any _).mono ?_
        rintro e wz ⟨rfl, hb⟩
        have Lwz := Lib.hid (Lw9.out.bel hb)
        clear hb Lw9 
        go_wp2
        go_ret
        exact ⟨rfl, Lwz.out.below⟩
      · have deb : (eb != 0) = true := by simp [bne, hb0]
        clear hb0 Hpb Hqb Heb
        go_wp2_with fail
        refine (awake_any _).mono ?_
        rintro e wz ⟨rfl, hb⟩
        have Lwz := Lib.hid (Lw9.out.bel hb)
        clear hb Lw9 
        go_wp2
        go_ret
        exact ⟨rfl, Lwz.out.below⟩
    · have dga : (eg == 0) = false := by simpa using hg0
      clear hg0 hbw Hpg Hqg Heg
      by_cases hb0 : eb = 0
      · rw [hb0] at Heb
        obtain ⟨hrb, hXb⟩ := gE_zero Heb.out
        have pb_ := Hpb.out
        have qb_ := Hqb.out
        rw [hrb, gV_y hXb] at pb_ qb_
        subst pb_
        subst qb_
        subst hb0
        obtain ⟨rfl, rfl⟩ := num_right NB.out hrb
        have r1 := right_bd HRA.out
        have r2 := right_bd HXA.out
        have r3 := right_bd hrb
        have r4 := right_bd hXb
        have hnb := norm_back (R := R) (I := I) (a := a) (b := b) (c := c) (d := d) hnose.out
        clear Hpb Hqb Heb hrb hXb HRA HXA NA NB hnose
        obtain ⟨X1, hX1⟩ : ∃ x, bX R I N M a b = x := ⟨_, rfl⟩
        obtain ⟨Y1, hY1⟩ : ∃ x, bY R I N M a b = x := ⟨_, rfl⟩
        obtain ⟨X2, hX2⟩ : ∃ x, bX R I N M c d = x := ⟨_, rfl⟩
        obtain ⟨Y2, hY2⟩ : ∃ x, bY R I N M c d = x := ⟨_, rfl⟩
        rw [hX1, hY1] at r2
        rw [hX2, hY2] at r4
        rw [hX1, hY1, hX2, hY2] at hnb
        rw [hX1, hY1, hX2, hY2]
        clear hX1 hY1 hX2 hY2
        obtain ⟨s1, t1, hs1⟩ := cSum_sub false false false false X1 Y1 X2 Y2 (by omega) (by omega) (by omega) (by omega)
        obtain ⟨s2, t2, hs2⟩ := cSum_sub false false false false a b c d (by omega) (by omega) (by omega) (by omega)
        have rs1 : ∀ w, (binOp .sub 31 (.complex .f64 (wd false X1) (wd false Y1)) (.complex .f64 (wd false X2) (wd false Y2))).run Try.prog w = .ok (.complex .f64 (wd s1 (X1 - X2)) (wd t1 (Y1 - Y2))) w := fun w => run_complex_sum w .sub (.inr rfl) 31 .f64 _ _ _ _ _ _ hs1
        have rs2 : ∀ w, (binOp .sub 31 (.complex .f64 (wd false a) (wd false b)) (.complex .f64 (wd false c) (wd false d))).run Try.prog w = .ok (.complex .f64 (wd s2 (a - c)) (wd t2 (b - d))) w := fun w => run_complex_sum w .sub (.inr rfl) 31 .f64 _ _ _ _ _ _ hs2
        have m1 : (X1 - X2).natAbs < 4194304 := by omega
        have m2 : (Y1 - Y2).natAbs < 4194304 := by omega
        have m3 : (a - c).natAbs < 4194304 := by omega
        have m4 : (b - d).natAbs < 4194304 := by omega
        clear hs1 hs2 r1 r2 r3 r4
        generalize X1 - X2 = A at *
        generalize Y1 - Y2 = B at *
        generalize a - c = C at *
        generalize b - d = D at *
        have q0 := run_fmul s1 s1 A A m1 m1
        have k0_ := mul_bd m1 m1
        have q1 := run_fmul t1 t1 B B m2 m2
        have k1_ := mul_bd m2 m2
        have q2 := run_fmul s2 s2 C C m3 m3
        have k2_ := mul_bd m3 m3
        have q3 := run_fmul t2 t2 D D m4 m4
        have k3_ := mul_bd m4 m4
        have u1 := run_fadd false false (A * A) (B * B) (by omega) (by omega)
        have u2 := run_fadd false false (C * C) (D * D) (by omega) (by omega)
        have oo := fun z z' => order_wd z z' (A * A + B * B) (C * C + D * D) (by omega) (by omega)
        rw [Int.compare_eq_eq.2 hnb] at oo
        clear hnb m1 m2 m3 m4 k0_ k1_ k2_ k3_
        go_wp2_with fail
        refine (awake_any _).mono ?_
        rintro e wz ⟨rfl, hb⟩
        have Lwz := Lib.hid (Lw8.out.bel hb)
        clear hb Lw8 
        go_wp2
        go_ret
        exact ⟨rfl, Lwz.out.below⟩
      · have deb : (eb != 0) = true := by simp [bne, hb0]
        clear hb0 Hpb Hqb Heb
        go_wp2_with fail
        refine (awake_any _).mono ?_
        rintro e wz ⟨rfl, hb⟩
        have Lwz := Lib.hid (Lw8.out.bel hb)
        clear hb Lw8 
        go_wp2
        go_ret
        exact ⟨rfl, Lwz.out.below⟩
  · have dna : (ea == 0) = false := by simpa using ha0
    have dnb : (ea != 0) = true := by simp [bne, ha0]
    clear ha0 hwb Hpa Hqa Hea
    have f0 := Lw6.out.cell (i := 0) (v := cx x1 y1) (List.mem_cons_self ..) rfl
    have f1 := Lw6.out.cell (i := 1) (v := cx x2 y2) (List.mem_cons_self ..) rfl
    have f2 := Lw6.out.cell (i := 2) (v := cx x3 y3) (List.mem_cons_self ..) rfl
    go_wp2_with fail
    refine (hWb _).mono ?_
    rintro e w8 ⟨rfl, hb⟩
    have Lw8 := Lib.hid (Lw6.out.bel hb)
    clear hb Lw6 f0 f1 f2
    clear hWb
    by_cases hg0 : eg = 0
    · rw [hg0] at Heg
      obtain ⟨hrb, hXb⟩ := gE_zero Heg.out
      have pg_ := Hpg.out
      have qg_ := Hqg.out
      rw [hrb, gV_y hXb] at pg_ qg_
      subst pg_
      subst qg_
      subst hg0
      have NB2 := num_right NB.out hrb
      obtain ⟨rfl, rfl⟩ := NB2
      have hbw := hbw hrb hXb
      have oc := order_wd false false c c (by have := right_bd hrb; omega) (by have := right_bd hrb; omega)
      have od := order_wd false false d d (by have := right_bd hrb; omega) (by have := right_bd hrb; omega)
      rw [Int.compare_eq_eq.2 rfl] at oc od
      clear hrb hXb Hpg Hqg Heg
      have f0 := Lw8.out.cell (i := 0) (v := cx x1 y1) (List.mem_cons_self ..) rfl
      have f1 := Lw8.out.cell (i := 1) (v := cx x2 y2) (List.mem_cons_self ..) rfl
      have f2 := Lw8.out.cell (i := 2) (v := cx x3 y3) (List.mem_cons_self ..) rfl
      go_wp2_with fail
      refine (hbw _).mono ?_
      rintro e w9 ⟨rfl, hb⟩
      have Lw9 := Lib.hid (Lw8.out.bel hb)
      clear hb Lw8 f0 f1 f2
      clear hbw
      go_wp2_with fail
      refine (awake_any _).mono ?_
      rintro e wz ⟨rfl, hb⟩
      have Lwz := Lib.hid (Lw9.out.bel hb)
      clear hb Lw9 
      go_wp2
      go_ret
      exact ⟨rfl, Lwz.out.below⟩
    · have dga : (eg == 0) = false := by simpa using hg0
      clear hg0 hbw Hpg Hqg Heg
      go_wp2_with fail
      refine (awake_any _).mono ?_
      rintro e wz ⟨rfl, hb⟩
      have Lwz := Lib.hid (Lw8.out.bel hb)
      clear hb Lw8 
      go_wp2
      go_ret
      exact ⟨rfl, Lwz.out.below⟩
end Go.Proofs.Ytbgllbjkmjlipaa
