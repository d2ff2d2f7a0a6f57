/- The walk of NavViews. -/
import Derived.Test.YtbgllbjkmjlipaaW
namespace Go.Proofs.Ytbgllbjkmjlipaa
open Go.RowKit
attribute [local go_sem] fmt64
attribute [local go_sem ↓] st45 st48 st39
attribute [local go_sem] st45_run st48_run st39_run World.setRow_alloc_new rr39 rr45 rr48

theorem mul_in {a c : Int} (ha : a.natAbs < 4194304) (hc : c.natAbs < 4194304) : -17592186044416 < a * c ∧ a * c < 17592186044416 := by
  have := mul_bd ha hc
  omega
theorem bd_of {n : Int} (h : -9007199254740992 < n ∧ n < 9007199254740992) : n.natAbs < 9007199254740992 := by omega
theorem wr_of {n : Int} (h : -9007199254740992 < n ∧ n < 9007199254740992) : IntKind.i64.wrap n = n := IntWalk.i64_in _ (by omega)
theorem views_facts {R I S J N M a b : Int} (hc : ckF R I S J N M = 0) (hrb : rightB a b = true) :
    (∀ w, Calls Try.prog 25 #[zz a b, zz R I] w fun e w' => e = .returned (zz (a - R) (b - I)) ∧ Below w.heap.size w w') ∧
    (∀ w, Calls Try.prog 24 #[zz (a - R) (b - I), zz N (-M)] w fun e w' => e = .returned (zz ((a - R) * N - (b - I) * -M) ((a - R) * -M + (b - I) * N)) ∧ Below w.heap.size w w') ∧
    (∀ w, Calls Try.prog 24 #[zz a b, zz N M] w fun e w' => e = .returned (zz (a * N - b * M) (a * M + b * N)) ∧ Below w.heap.size w w') ∧
    (∀ w, Calls Try.prog 26 #[zz R I, zz (a * N - b * M) (a * M + b * N)] w fun e w' => e = .returned (zz (R + (a * N - b * M)) (I + (a * M + b * N))) ∧ Below w.heap.size w w') ∧
    IntKind.i64.wrap (-M) = -M ∧
    (∀ w, Calls Try.prog 28 #[cx (wd false ((a - R) * N - (b - I) * -M)) (wd false ((a - R) * -M + (b - I) * N)), zz ((a - R) * N - (b - I) * -M) ((a - R) * -M + (b - I) * N)] w fun e w' => e = .returned (.bool true) ∧ Below w.heap.size w w') ∧
    (∀ w, Calls Try.prog 28 #[cx (wd false (R + (a * N - b * M))) (wd false (I + (a * M + b * N))), zz (R + (a * N - b * M)) (I + (a * M + b * N))] w fun e w' => e = .returned (.bool true) ∧ Below w.heap.size w w') := by
  obtain ⟨g1, g2, g3⟩ := ck_zero hc
  have hN := right_bd (nose_bd g3)
  have hR := right_bd g1
  have hA := right_bd hrb
  have m1 : (a - R).natAbs < 4194304 := by omega
  have m2 : (b - I).natAbs < 4194304 := by omega
  have m3 : N.natAbs < 4194304 := by omega
  have m4 : (-M).natAbs < 4194304 := by omega
  have m5 : a.natAbs < 4194304 := by omega
  have m6 : b.natAbs < 4194304 := by omega
  have m7 : M.natAbs < 4194304 := by omega
  have b1 := mul_in m1 m3
  have b2 := mul_in m2 m4
  have b3 := mul_in m1 m4
  have b4 := mul_in m2 m3
  have b5 := mul_in m5 m3
  have b6 := mul_in m6 m7
  have b7 := mul_in m5 m7
  have b8 := mul_in m6 m3
  have hL := lessZ_any a b R I (wr_of (by omega)) (wr_of (by omega))
  have hw : IntKind.i64.wrap (-M) = -M := wr_of (by omega)
  have hR' : -1048576 < R ∧ R < 1048576 ∧ -1048576 < I ∧ I < 1048576 := by omega
  have hT1 := timesZ_any (a - R) (b - I) N (-M)
  have hT2 := timesZ_any a b N M
  have hA2 := addZ_any R I (a * N - b * M) (a * M + b * N)
  clear m1 m2 m3 m4 m5 m6 m7 hN hR hA g1 g2 g3 hc hrb
  generalize (a - R) * N = p1 at *
  generalize (b - I) * -M = p2 at *
  generalize (a - R) * -M = p3 at *
  generalize (b - I) * N = p4 at *
  generalize a * N = p5 at *
  generalize b * M = p6 at *
  generalize a * M = p7 at *
  generalize b * N = p8 at *
  exact ⟨hL, hT1 (wr_of (by omega)) (wr_of (by omega)) (wr_of (by omega)) (wr_of (by omega)) (wr_of (by omega)) (wr_of (by omega)), hT2 (wr_of (by omega)) (wr_of (by omega)) (wr_of (by omega)) (wr_of (by omega)) (wr_of (by omega)) (wr_of (by omega)),
    hA2 (wr_of (by omega)) (wr_of (by omega)), hw, is_any _ _ (bd_of (by omega)) (bd_of (by omega)), is_any _ _ (bd_of (by omega)) (bd_of (by omega))⟩
theorem svA_of {w w1 w2 W : World} {x1 y1 x2 y2 x3 y3 : Nat} {R I S J N M re im kd re0 im0 k0 re1 im1 k1 re2 im2 k2 : Int} (h : LW w 0 [(w2.heap.size, 48, #[.int .i64 R, .int .i64 I, .int .i64 S, .int .i64 J, .int .i64 N, .int .i64 M]), (w1.heap.size, 45, #[cx x1 y1, cx x2 y2, cx x3 y3]), (w.heap.size + 1, 24, #[.int .i64 re, .int .i64 im, .int .i64 kd]), (w.heap.size, 43, #[.int .i64 re0, .int .i64 im0, .int .i64 k0, .int .i64 re1, .int .i64 im1, .int .i64 k1, .int .i64 re2, .int .i64 im2, .int .i64 k2])] W) : LW w 0 [(w2.heap.size, 48, #[.int .i64 R, .int .i64 I, .int .i64 S, .int .i64 J, .int .i64 N, .int .i64 M]), (w1.heap.size, 45, #[cx x1 y1, cx x2 y2, cx x3 y3]), (w.heap.size + 1, 24, #[.int .i64 re, .int .i64 im, .int .i64 kd]), (w.heap.size, 43, #[.int .i64 re0, .int .i64 im0, .int .i64 k0, .int .i64 re1, .int .i64 im1, .int .i64 k1, .int .i64 re2, .int .i64 im2, .int .i64 k2])] W ∧ W.cell? ⟨w1.heap.size, 0, none⟩ = some (cx x1 y1) ∧ W.cell? ⟨w1.heap.size, 1, none⟩ = some (cx x2 y2) ∧ W.cell? ⟨w1.heap.size, 2, none⟩ = some (cx x3 y3) ∧ W.cell? ⟨w.heap.size + 1, 0, none⟩ = some (.int .i64 re) ∧ W.cell? ⟨w.heap.size + 1, 1, none⟩ = some (.int .i64 im) ∧ W.cell? ⟨w.heap.size + 1, 2, none⟩ = some (.int .i64 kd) :=
  ⟨h, h.cell (List.mem_cons_of_mem _ (List.mem_cons_self ..)) rfl, h.cell (List.mem_cons_of_mem _ (List.mem_cons_self ..)) rfl, h.cell (List.mem_cons_of_mem _ (List.mem_cons_self ..)) rfl, h.cell (List.mem_cons_of_mem _ (List.mem_cons_of_mem _ (List.mem_cons_self ..))) rfl, h.cell (List.mem_cons_of_mem _ (List.mem_cons_of_mem _ (List.mem_cons_self ..))) rfl, h.cell (List.mem_cons_of_mem _ (List.mem_cons_of_mem _ (List.mem_cons_self ..))) rfl⟩
theorem svA_bel {w w1 w2 W W' : World} {x1 y1 x2 y2 x3 y3 : Nat} {R I S J N M re im kd re0 im0 k0 re1 im1 k1 re2 im2 k2 : Int} (h : LW w 0 [(w2.heap.size, 48, #[.int .i64 R, .int .i64 I, .int .i64 S, .int .i64 J, .int .i64 N, .int .i64 M]), (w1.heap.size, 45, #[cx x1 y1, cx x2 y2, cx x3 y3]), (w.heap.size + 1, 24, #[.int .i64 re, .int .i64 im, .int .i64 kd]), (w.heap.size, 43, #[.int .i64 re0, .int .i64 im0, .int .i64 k0, .int .i64 re1, .int .i64 im1, .int .i64 k1, .int .i64 re2, .int .i64 im2, .int .i64 k2])] W ∧ W.cell? ⟨w1.heap.size, 0, none⟩ = some (cx x1 y1) ∧ W.cell? ⟨w1.heap.size, 1, none⟩ = some (cx x2 y2) ∧ W.cell? ⟨w1.heap.size, 2, none⟩ = some (cx x3 y3) ∧ W.cell? ⟨w.heap.size + 1, 0, none⟩ = some (.int .i64 re) ∧ W.cell? ⟨w.heap.size + 1, 1, none⟩ = some (.int .i64 im) ∧ W.cell? ⟨w.heap.size + 1, 2, none⟩ = some (.int .i64 kd)) (hb : Below W.heap.size W W') : LW w 0 [(w2.heap.size, 48, #[.int .i64 R, .int .i64 I, .int .i64 S, .int .i64 J, .int .i64 N, .int .i64 M]), (w1.heap.size, 45, #[cx x1 y1, cx x2 y2, cx x3 y3]), (w.heap.size + 1, 24, #[.int .i64 re, .int .i64 im, .int .i64 kd]), (w.heap.size, 43, #[.int .i64 re0, .int .i64 im0, .int .i64 k0, .int .i64 re1, .int .i64 im1, .int .i64 k1, .int .i64 re2, .int .i64 im2, .int .i64 k2])] W' ∧ W'.cell? ⟨w1.heap.size, 0, none⟩ = some (cx x1 y1) ∧ W'.cell? ⟨w1.heap.size, 1, none⟩ = some (cx x2 y2) ∧ W'.cell? ⟨w1.heap.size, 2, none⟩ = some (cx x3 y3) ∧ W'.cell? ⟨w.heap.size + 1, 0, none⟩ = some (.int .i64 re) ∧ W'.cell? ⟨w.heap.size + 1, 1, none⟩ = some (.int .i64 im) ∧ W'.cell? ⟨w.heap.size + 1, 2, none⟩ = some (.int .i64 kd) := svA_of (h.1.bel hb)

set_option maxRecDepth 100000 in
set_option maxHeartbeats 2000000 in
theorem navViews_walk (re0 im0 k0 re1 im1 k1 re2 im2 k2 re im kd : Int) (w : World) : Calls Try.prog 4 #[.agg #[.int .i64 re0, .int .i64 im0, .int .i64 k0, .int .i64 re1, .int .i64 im1, .int .i64 k1, .int .i64 re2, .int .i64 im2, .int .i64 k2], nb re im kd] w fun e w' => e = .returned (.bool true) ∧ Below w.heap.size w w' := by
  have hp := pose_any re0 im0 k0 re1 im1 k1 re2 im2 k2
  have hpp := plainPose_any re0 im0 k0 re1 im1 k1 re2 im2 k2
  have hv := value_any re im kd
  have hpl := plainN_any re im kd
  have hr := rightN_any re im kd
  have L0 := ((LW.nil w).new 43 #[.int .i64 re0, .int .i64 im0, .int .i64 k0, .int .i64 re1, .int .i64 im1, .int .i64 k1, .int .i64 re2, .int .i64 im2, .int .i64 k2]).new 24 #[.int .i64 re, .int .i64 im, .int .i64 kd]
  generalize plR re0 im0 k0 = R at *
  generalize plI re0 im0 k0 = I at *
  generalize plR re1 im1 k1 = S at *
  generalize plI re1 im1 k1 = J at *
  generalize plR re2 im2 k2 = N at *
  generalize plI re2 im2 k2 = M at *
  generalize plR re im kd = a at *
  generalize plI re im kd = b at *
  have hck := rcheck_any R I S J N M
  have hbody : ∀ {x1 y1 x2 y2 x3 y3 x y : Nat}, Num x1 y1 R I → Num x2 y2 S J → Num x3 y3 N M → Num x y a b → _ := fun h1 h2 h3 h4 => body_gen h1 h2 h3 h4
  have hworld : ∀ {x1 y1 x2 y2 x3 y3 x y : Nat}, Num x1 y1 R I → Num x2 y2 S J → Num x3 y3 N M → Num x y a b → _ := fun h1 h2 h3 h4 => world_gen h1 h2 h3 h4
  obtain ⟨p, hp_⟩ : ∃ p, gV (ckF R I S J N M) (rightB a b) (bX R I N M a b) (bY R I N M a b) (bX R I N M a b) = p := ⟨_, rfl⟩
  obtain ⟨q, hq_⟩ : ∃ q, gV (ckF R I S J N M) (rightB a b) (bX R I N M a b) (bY R I N M a b) (bY R I N M a b) = q := ⟨_, rfl⟩
  obtain ⟨e1, he1⟩ : ∃ e1, gE (ckF R I S J N M) (rightB a b) (bX R I N M a b) (bY R I N M a b) = e1 := ⟨_, rfl⟩
  obtain ⟨u, hu_⟩ : ∃ p, gV (ckF R I S J N M) (rightB a b) (wX R I N M a b) (wY R I N M a b) (wX R I N M a b) = p := ⟨_, rfl⟩
  obtain ⟨v, hv_⟩ : ∃ q, gV (ckF R I S J N M) (rightB a b) (wX R I N M a b) (wY R I N M a b) (wY R I N M a b) = q := ⟨_, rfl⟩
  obtain ⟨e2, he2⟩ : ∃ e1, gE (ckF R I S J N M) (rightB a b) (wX R I N M a b) (wY R I N M a b) = e1 := ⟨_, rfl⟩
  rw [hp_, hq_, he1] at hbody
  rw [hu_, hv_, he2] at hworld
  have HP := Lib.hid hp_
  have HQ := Lib.hid hq_
  have HE1 := Lib.hid he1
  have HU := Lib.hid hu_
  have HV := Lib.hid hv_
  have HE2 := Lib.hid he2
  clear hp_ hq_ he1 hu_ hv_ he2
  have LL0 : Hid (LW w 0 [(w.heap.size + 1, 24, #[.int .i64 re, .int .i64 im, .int .i64 kd]), (w.heap.size, 43, #[.int .i64 re0, .int .i64 im0, .int .i64 k0, .int .i64 re1, .int .i64 im1, .int .i64 k1, .int .i64 re2, .int .i64 im2, .int .i64 k2])] ((w.alloc (.cells #[.int .i64 re0, .int .i64 im0, .int .i64 k0, .int .i64 re1, .int .i64 im1, .int .i64 k1, .int .i64 re2, .int .i64 im2, .int .i64 k2] 43)).alloc (.cells #[.int .i64 re, .int .i64 im, .int .i64 kd] 24))) := by
    rw [World.size_alloc] at L0; exact L0
  clear L0
  go_enter Try.func4, Try.ntmps4
  go_wp2_with fail
  refine (hp _).mono ?_
  rintro e w1 ⟨x1, y1, x2, y2, x3, y3, rfl, n1, n2, n3, hb1⟩
  have hbody := fun (x y : Nat) => @hbody x1 y1 x2 y2 x3 y3 x y n1 n2 n3
  have hworld := fun (x y : Nat) => @hworld x1 y1 x2 y2 x3 y3 x y n1 n2 n3
  have LL1 := Lib.hid ((LL0.out.bel hb1).new 45 #[cx x1 y1, cx x2 y2, cx x3 y3])
  have l1 := LL1.out
  have c0 := l1.cell (i := 0) (v := .int .i64 re0) (List.mem_cons_of_mem _ (List.mem_cons_of_mem _ (List.mem_cons_self ..))) rfl
  have c1 := l1.cell (i := 1) (v := .int .i64 im0) (List.mem_cons_of_mem _ (List.mem_cons_of_mem _ (List.mem_cons_self ..))) rfl
  have c2 := l1.cell (i := 2) (v := .int .i64 k0) (List.mem_cons_of_mem _ (List.mem_cons_of_mem _ (List.mem_cons_self ..))) rfl
  have c3 := l1.cell (i := 3) (v := .int .i64 re1) (List.mem_cons_of_mem _ (List.mem_cons_of_mem _ (List.mem_cons_self ..))) rfl
  have c4 := l1.cell (i := 4) (v := .int .i64 im1) (List.mem_cons_of_mem _ (List.mem_cons_of_mem _ (List.mem_cons_self ..))) rfl
  have c5 := l1.cell (i := 5) (v := .int .i64 k1) (List.mem_cons_of_mem _ (List.mem_cons_of_mem _ (List.mem_cons_self ..))) rfl
  have c6 := l1.cell (i := 6) (v := .int .i64 re2) (List.mem_cons_of_mem _ (List.mem_cons_of_mem _ (List.mem_cons_self ..))) rfl
  have c7 := l1.cell (i := 7) (v := .int .i64 im2) (List.mem_cons_of_mem _ (List.mem_cons_of_mem _ (List.mem_cons_self ..))) rfl
  have c8 := l1.cell (i := 8) (v := .int .i64 k2) (List.mem_cons_of_mem _ (List.mem_cons_of_mem _ (List.mem_cons_self ..))) rfl
  clear hb1 LL0 l1 hp
  go_wp2_with fail
  refine (hpp _).mono ?_
  rintro e w2 ⟨rfl, hb2⟩
  have LL2 := Lib.hid ((LL1.out.bel hb2).new 48 #[.int .i64 R, .int .i64 I, .int .i64 S, .int .i64 J, .int .i64 N, .int .i64 M])
  clear hb2 LL1 c0 c1 c2 c3 c4 c5 c6 c7 c8 hpp
  obtain ⟨W3, hW3⟩ : ∃ W3, w2.alloc (Obj.cells #[Value.int IntKind.i64 R, Value.int IntKind.i64 I, Value.int IntKind.i64 S, Value.int IntKind.i64 J, Value.int IntKind.i64 N, Value.int IntKind.i64 M] 48) = W3 := ⟨_, rfl⟩
  rw [hW3] at LL2
  have HK3 := svA_of LL2.out.drew
  have HW3 := Lib.hid hW3
  clear hW3
  go_wp2
  rw [HW3.out]
  go_region_held3 (fun W => LW w 0 [(w2.heap.size, 48, #[.int .i64 R, .int .i64 I, .int .i64 S, .int .i64 J, .int .i64 N, .int .i64 M]), (w1.heap.size, 45, #[cx x1 y1, cx x2 y2, cx x3 y3]), (w.heap.size + 1, 24, #[.int .i64 re, .int .i64 im, .int .i64 kd]), (w.heap.size, 43, #[.int .i64 re0, .int .i64 im0, .int .i64 k0, .int .i64 re1, .int .i64 im1, .int .i64 k1, .int .i64 re2, .int .i64 im2, .int .i64 k2])] W ∧ W.cell? ⟨w1.heap.size, 0, none⟩ = some (cx x1 y1) ∧ W.cell? ⟨w1.heap.size, 1, none⟩ = some (cx x2 y2) ∧ W.cell? ⟨w1.heap.size, 2, none⟩ = some (cx x3 y3) ∧ W.cell? ⟨w.heap.size + 1, 0, none⟩ = some (.int .i64 re) ∧ W.cell? ⟨w.heap.size + 1, 1, none⟩ = some (.int .i64 im) ∧ W.cell? ⟨w.heap.size + 1, 2, none⟩ = some (.int .i64 kd))
    (first | (with_reducible exact HK3) | (with_reducible exact svA_bel (by assumption) hbw))
    (first | (go_at_call 14; refine (hv _).mono ?_; rintro e w4 ⟨x4, y4, rfl, hN, hbw⟩) | (go_at_call 21; refine (hbody _ _ (by assumption) _).mono ?_; rintro e w5 ⟨rfl, hbw⟩))
  rename_i hK
  have LL5 := Lib.hid hK.1
  clear HW3 HK3 LL2 hK
  have HK5 := svA_of LL5.out.drew
  go_wp2
  go_region_held3 (fun W => LW w 0 [(w2.heap.size, 48, #[.int .i64 R, .int .i64 I, .int .i64 S, .int .i64 J, .int .i64 N, .int .i64 M]), (w1.heap.size, 45, #[cx x1 y1, cx x2 y2, cx x3 y3]), (w.heap.size + 1, 24, #[.int .i64 re, .int .i64 im, .int .i64 kd]), (w.heap.size, 43, #[.int .i64 re0, .int .i64 im0, .int .i64 k0, .int .i64 re1, .int .i64 im1, .int .i64 k1, .int .i64 re2, .int .i64 im2, .int .i64 k2])] W ∧ W.cell? ⟨w1.heap.size, 0, none⟩ = some (cx x1 y1) ∧ W.cell? ⟨w1.heap.size, 1, none⟩ = some (cx x2 y2) ∧ W.cell? ⟨w1.heap.size, 2, none⟩ = some (cx x3 y3) ∧ W.cell? ⟨w.heap.size + 1, 0, none⟩ = some (.int .i64 re) ∧ W.cell? ⟨w.heap.size + 1, 1, none⟩ = some (.int .i64 im) ∧ W.cell? ⟨w.heap.size + 1, 2, none⟩ = some (.int .i64 kd))
    (first | (with_reducible exact HK5) | (with_reducible exact svA_bel (by assumption) hbw))
    (first | (go_at_call 14; refine (hv _).mono ?_; rintro e w4 ⟨x5, y5, rfl, hN, hbw⟩) | (go_at_call 22; refine (hworld _ _ (by assumption) _).mono ?_; rintro e w7 ⟨rfl, hbw⟩))
  rename_i hK
  have LL7 := Lib.hid hK.1
  clear HK5 LL5 hK
  have z0 := LL7.out.cell (i := 0) (v := .int .i64 R) (List.mem_cons_self ..) rfl
  have z1 := LL7.out.cell (i := 1) (v := .int .i64 I) (List.mem_cons_self ..) rfl
  have z2 := LL7.out.cell (i := 2) (v := .int .i64 S) (List.mem_cons_self ..) rfl
  have z3 := LL7.out.cell (i := 3) (v := .int .i64 J) (List.mem_cons_self ..) rfl
  have z4 := LL7.out.cell (i := 4) (v := .int .i64 N) (List.mem_cons_self ..) rfl
  have z5 := LL7.out.cell (i := 5) (v := .int .i64 M) (List.mem_cons_self ..) rfl
  go_wp2_with fail
  refine (hck _).mono ?_
  rintro e w8 ⟨rfl, hb8⟩
  have LL8 := Lib.hid (LL7.out.bel hb8)
  clear hb8 LL7 z0 z1 z2 z3 z4 z5 hck hbody hworld hv
  by_cases hc : ckF R I S J N M = 0
  · rw [hc] at HP HQ HE1 HU HV HE2 ⊢
    have HC := Lib.hid hc
    clear hc
    cases hrb : rightB a b with
    | false =>
      rw [hrb] at HP HQ HE1 HU HV HE2 hr
      obtain rfl : 0 = p := gV_r.symm.trans HP.out
      obtain rfl : 0 = q := gV_r.symm.trans HQ.out
      obtain rfl : 10 = e1 := gE_r.symm.trans HE1.out
      obtain rfl : 0 = u := gV_r.symm.trans HU.out
      obtain rfl : 0 = v := gV_r.symm.trans HV.out
      obtain rfl : 10 = e2 := gE_r.symm.trans HE2.out
      have hz : Ieee.double.order (wd false 0) 0 = some .eq := by decide
      have y0 := LL8.out.cell (i := 0) (v := .int .i64 re) (List.mem_cons_of_mem _ (List.mem_cons_of_mem _ (List.mem_cons_self ..))) rfl
      have y1 := LL8.out.cell (i := 1) (v := .int .i64 im) (List.mem_cons_of_mem _ (List.mem_cons_of_mem _ (List.mem_cons_self ..))) rfl
      have y2 := LL8.out.cell (i := 2) (v := .int .i64 kd) (List.mem_cons_of_mem _ (List.mem_cons_of_mem _ (List.mem_cons_self ..))) rfl
      clear HP HQ HE1 HU HV HE2 hrb HC
      go_wp2_with fail
      refine (hr _).mono ?_
      rintro e w9 ⟨rfl, hb9⟩
      have LL9 := Lib.hid (LL8.out.bel hb9)
      clear LL8 hb9 y0 y1 y2
      go_wp2_with fail
      refine (awake_any _).mono ?_
      rintro e w10 ⟨rfl, hb10⟩
      have LL10 := Lib.hid (LL9.out.bel hb10)
      clear LL9 hb10
      go_wp2
      go_ret
      exact ⟨rfl, LL10.out.below⟩
    | true =>
      rw [hrb] at HP HQ HE1 HU HV HE2 hr
      obtain ⟨hL, hT1, hT2, hA2, hw, i1, i2⟩ := views_facts HC.out hrb
      have z1 := rightZ_any (bX R I N M a b) (bY R I N M a b)
      have z2 := rightZ_any (wX R I N M a b) (wY R I N M a b)
      clear hrb HC
      unfold bX bY wX wY at *
      generalize (a - R) * N - (b - I) * -M = X at *
      generalize (a - R) * -M + (b - I) * N = Y at *
      generalize a * N - b * M = X1 at *
      generalize a * M + b * N = Y1 at *
      generalize R + X1 = X2 at *
      generalize I + Y1 = Y2 at *
      have y0 := LL8.out.cell (i := 0) (v := .int .i64 re) (List.mem_cons_of_mem _ (List.mem_cons_of_mem _ (List.mem_cons_self ..))) rfl
      have y1 := LL8.out.cell (i := 1) (v := .int .i64 im) (List.mem_cons_of_mem _ (List.mem_cons_of_mem _ (List.mem_cons_self ..))) rfl
      have y2 := LL8.out.cell (i := 2) (v := .int .i64 kd) (List.mem_cons_of_mem _ (List.mem_cons_of_mem _ (List.mem_cons_self ..))) rfl
      go_wp2_with fail
      refine (hr _).mono ?_
      rintro e w9 ⟨rfl, hb9⟩
      have LL9 := Lib.hid (LL8.out.bel hb9)
      have LD9 := Lib.hid LL9.out.drew
      clear LL8 hb9 y0 y1 y2 hr
      go_wp2
      refine Code.wp_mono (Q := fun e_ a_ W' => e_ = .normal ∧ ∃ g, a_ = ({ tmps := #[Value.agg #[Value.int IntKind.i64 re0, Value.int IntKind.i64 im0, Value.int IntKind.i64 k0, Value.int IntKind.i64 re1, Value.int IntKind.i64 im1, Value.int IntKind.i64 k1, Value.int IntKind.i64 re2, Value.int IntKind.i64 im2, Value.int IntKind.i64 k2], nb re im kd, Value.pointer (some { block := w.heap.size, off := 0 }), Value.pointer (some { block := w.heap.size + 1, off := 0 }), Value.bool false, Value.pointer (some { block := w1.heap.size, off := 0 }), Value.pointer (some { block := w2.heap.size, off := 0 }), cx (wd false p) (wd false q), Value.int IntKind.i64 e1, cx (wd false u) (wd false v), Value.int IntKind.i64 e2, Value.int IntKind.i64 0, .pointer (some ⟨g, 0, none⟩), undef, Value.agg #[Value.int IntKind.i64 re0, Value.int IntKind.i64 im0, Value.int IntKind.i64 k0, Value.int IntKind.i64 re1, Value.int IntKind.i64 im1, Value.int IntKind.i64 k1, Value.int IntKind.i64 re2, Value.int IntKind.i64 im2, Value.int IntKind.i64 k2], ps x1 y1 x2 y2 x3 y3, Value.agg #[Value.int IntKind.i64 re0, Value.int IntKind.i64 im0, Value.int IntKind.i64 k0, Value.int IntKind.i64 re1, Value.int IntKind.i64 im1, Value.int IntKind.i64 k1, Value.int IntKind.i64 re2, Value.int IntKind.i64 im2, Value.int IntKind.i64 k2], pz R I S J N M, pairC (wd false p) (wd false q) e1, Value.agg #[cx x1 y1, cx x2 y2, cx x3 y3], Value.agg #[Value.int IntKind.i64 re, Value.int IntKind.i64 im, Value.int IntKind.i64 kd], cx x4 y4, pairC (wd false p) (wd false q) e1, cx (wd false p) (wd false q), Value.int IntKind.i64 e1, pairC (wd false u) (wd false v) e2, Value.agg #[cx x1 y1, cx x2 y2, cx x3 y3], Value.agg #[Value.int IntKind.i64 re, Value.int IntKind.i64 im, Value.int IntKind.i64 kd], cx x5 y5, pairC (wd false u) (wd false v) e2, cx (wd false u) (wd false v), Value.int IntKind.i64 e2, Value.agg #[Value.int IntKind.i64 R, Value.int IntKind.i64 I, Value.int IntKind.i64 S, Value.int IntKind.i64 J, Value.int IntKind.i64 N, Value.int IntKind.i64 M], Value.int IntKind.i64 0, Value.int IntKind.i64 0, Value.bool false, undef, undef, undef, undef, undef, undef, undef, undef, undef, undef, undef, undef, undef, undef, undef, undef, undef, undef, undef, Value.agg #[Value.int IntKind.i64 re, Value.int IntKind.i64 im, Value.int IntKind.i64 kd], Value.bool true, Value.bool false, undef, undef, undef, undef, undef, undef, undef, undef, undef, undef, undef, undef, undef, undef, undef, undef, undef, Value.agg #[Value.int IntKind.i64 re, Value.int IntKind.i64 im, Value.int IntKind.i64 kd], zz a b, Value.pointer (some { block := w2.heap.size, off := 0 }), Value.agg #[Value.int IntKind.i64 R, Value.int IntKind.i64 I], zz (a - R) (b - I), Value.pointer (some { block := w2.heap.size, off := 4 }), Value.pointer (some { block := w2.heap.size, off := 4 }), Value.int IntKind.i64 N, Value.pointer (some { block := w2.heap.size, off := 4 }), Value.pointer (some { block := w2.heap.size, off := 5 }), Value.int IntKind.i64 M, Value.int IntKind.i64 (-M), Value.agg #[Value.int IntKind.i64 N, Value.int IntKind.i64 (-M)], zz X Y, undef, undef, undef, undef, undef, undef, undef, undef, undef, undef, undef, undef, undef, undef, undef, undef, undef, undef, undef, undef, undef, undef, undef, undef, undef, undef, undef, undef, undef, undef, undef, undef, undef, undef, undef, undef, undef, undef, undef, undef, undef, undef, undef, undef, undef], defers := [] } : Act) ∧ LW w 0 [(g, 39, #[.int .i64 X, .int .i64 Y]), (w2.heap.size, 48, #[.int .i64 R, .int .i64 I, .int .i64 S, .int .i64 J, .int .i64 N, .int .i64 M]), (w1.heap.size, 45, #[cx x1 y1, cx x2 y2, cx x3 y3]), (w.heap.size + 1, 24, #[.int .i64 re, .int .i64 im, .int .i64 kd]), (w.heap.size, 43, #[.int .i64 re0, .int .i64 im0, .int .i64 k0, .int .i64 re1, .int .i64 im1, .int .i64 k1, .int .i64 re2, .int .i64 im2, .int .i64 k2])] W') ?impa ?rega
      case rega =>
        clear i1 i2 hA2 hT2 LL9 HP HQ HE1 HU HV HE2 z1 z2
        have hge0 : w9.drew.heap.size ≤ w9.heap.size := Nat.le_refl _
        have sv : Hid (∀ W, Below w9.drew.heap.size w9.drew W → Below w9.drew.heap.size w9.drew W ∧ W.cell? ⟨w2.heap.size, 0, none⟩ = some (.int .i64 R) ∧ W.cell? ⟨w2.heap.size, 1, none⟩ = some (.int .i64 I) ∧ W.cell? ⟨w2.heap.size, 4, none⟩ = some (.int .i64 N) ∧ W.cell? ⟨w2.heap.size, 5, none⟩ = some (.int .i64 M) ∧ W.cell? ⟨w.heap.size + 1, 0, none⟩ = some (.int .i64 re) ∧ W.cell? ⟨w.heap.size + 1, 1, none⟩ = some (.int .i64 im) ∧ W.cell? ⟨w.heap.size + 1, 2, none⟩ = some (.int .i64 kd)) := Lib.hid fun W hb => by
          have LL := LD9.out.bel hb
          exact ⟨hb, LL.cell (i := 0) (v := .int .i64 R) (List.mem_cons_self ..) rfl, LL.cell (i := 1) (v := .int .i64 I) (List.mem_cons_self ..) rfl, LL.cell (i := 4) (v := .int .i64 N) (List.mem_cons_self ..) rfl, LL.cell (i := 5) (v := .int .i64 M) (List.mem_cons_self ..) rfl, LL.cell (i := 0) (v := .int .i64 re) (List.mem_cons_of_mem _ (List.mem_cons_of_mem _ (List.mem_cons_self ..))) rfl, LL.cell (i := 1) (v := .int .i64 im) (List.mem_cons_of_mem _ (List.mem_cons_of_mem _ (List.mem_cons_self ..))) rfl, LL.cell (i := 2) (v := .int .i64 kd) (List.mem_cons_of_mem _ (List.mem_cons_of_mem _ (List.mem_cons_self ..))) rfl⟩
        have BK0 := Below.refl w9.drew.heap.size w9.drew
        go_region_held3 (fun W => Below w9.drew.heap.size w9.drew W ∧ W.cell? ⟨w2.heap.size, 0, none⟩ = some (.int .i64 R) ∧ W.cell? ⟨w2.heap.size, 1, none⟩ = some (.int .i64 I) ∧ W.cell? ⟨w2.heap.size, 4, none⟩ = some (.int .i64 N) ∧ W.cell? ⟨w2.heap.size, 5, none⟩ = some (.int .i64 M) ∧ W.cell? ⟨w.heap.size + 1, 0, none⟩ = some (.int .i64 re) ∧ W.cell? ⟨w.heap.size + 1, 1, none⟩ = some (.int .i64 im) ∧ W.cell? ⟨w.heap.size + 1, 2, none⟩ = some (.int .i64 kd))
          (first | (with_reducible exact sv.out _ BK0) | (with_reducible exact sv.out _ (bt (And.left (by assumption)) hbw)) | (with_reducible exact sv.out _ (bt_alloc (And.left (by assumption)) _)) | (with_reducible exact sv.out _ (bt_allocd (And.left (by assumption)) _)) | (with_reducible exact sv.out _ (bt_re (And.left (by assumption)) (by assumption))) | (with_reducible exact sv.out _ (bt_set (And.left (by assumption)) (by assumption) _)))
          (first | (go_at_call 18; refine (hpl _).mono ?_; rintro e w_ ⟨rfl, hbw⟩; have hge := bt_ge (And.left (by assumption)) hbw; (first | have hRR := RR.bel (k := 2) (t := 39) (by assumption) hbw | have hRR := RR.bel (rr39 _ _ _) hbw | have hRR := RR.bel (rr39d _ _ _) hbw | skip)) | (go_at_call 25; refine (hL _).mono ?_; rintro e w_ ⟨rfl, hbw⟩; have hge := bt_ge (And.left (by assumption)) hbw; (first | have hRR := RR.bel (k := 2) (t := 39) (by assumption) hbw | have hRR := RR.bel (rr39 _ _ _) hbw | have hRR := RR.bel (rr39d _ _ _) hbw | skip)) | (go_at_call 24; refine (hT1 _).mono ?_; rintro e w_ ⟨rfl, hbw⟩; have hge := bt_ge (And.left (by assumption)) hbw; (first | have hRR := RR.bel (k := 2) (t := 39) (by assumption) hbw | have hRR := RR.bel (rr39 _ _ _) hbw | have hRR := RR.bel (rr39d _ _ _) hbw | skip)))
        all_goals
          rename_i hK
          first | exact ⟨rfl, _, rfl, LW.add (LD9.out.bel hK.1) (heap_alloc_new _ _)⟩ | exact ⟨rfl, _, rfl, LW.add (LD9.out.bel hK.1) (RR.setRow_row (k := 2) (t := 39) (by assumption) _)⟩
      rintro e a W' ⟨rfl, g, rfl, l10⟩
      have LD10 := Lib.hid l10.drew
      clear l10 LD9 LL9 hL hT1
      go_wp2
      refine Code.wp_mono (Q := fun e_ a_ W' => e_ = .normal ∧ ∃ g2, a_ = ({ tmps := #[Value.agg #[Value.int IntKind.i64 re0, Value.int IntKind.i64 im0, Value.int IntKind.i64 k0, Value.int IntKind.i64 re1, Value.int IntKind.i64 im1, Value.int IntKind.i64 k1, Value.int IntKind.i64 re2, Value.int IntKind.i64 im2, Value.int IntKind.i64 k2], nb re im kd, Value.pointer (some { block := w.heap.size, off := 0 }), Value.pointer (some { block := w.heap.size + 1, off := 0 }), Value.bool false, Value.pointer (some { block := w1.heap.size, off := 0 }), Value.pointer (some { block := w2.heap.size, off := 0 }), cx (wd false p) (wd false q), Value.int IntKind.i64 e1, cx (wd false u) (wd false v), Value.int IntKind.i64 e2, Value.int IntKind.i64 0, Value.pointer (some { block := g, off := 0 }), .pointer (some ⟨g2, 0, none⟩), Value.agg #[Value.int IntKind.i64 re0, Value.int IntKind.i64 im0, Value.int IntKind.i64 k0, Value.int IntKind.i64 re1, Value.int IntKind.i64 im1, Value.int IntKind.i64 k1, Value.int IntKind.i64 re2, Value.int IntKind.i64 im2, Value.int IntKind.i64 k2], ps x1 y1 x2 y2 x3 y3, Value.agg #[Value.int IntKind.i64 re0, Value.int IntKind.i64 im0, Value.int IntKind.i64 k0, Value.int IntKind.i64 re1, Value.int IntKind.i64 im1, Value.int IntKind.i64 k1, Value.int IntKind.i64 re2, Value.int IntKind.i64 im2, Value.int IntKind.i64 k2], pz R I S J N M, pairC (wd false p) (wd false q) e1, Value.agg #[cx x1 y1, cx x2 y2, cx x3 y3], Value.agg #[Value.int IntKind.i64 re, Value.int IntKind.i64 im, Value.int IntKind.i64 kd], cx x4 y4, pairC (wd false p) (wd false q) e1, cx (wd false p) (wd false q), Value.int IntKind.i64 e1, pairC (wd false u) (wd false v) e2, Value.agg #[cx x1 y1, cx x2 y2, cx x3 y3], Value.agg #[Value.int IntKind.i64 re, Value.int IntKind.i64 im, Value.int IntKind.i64 kd], cx x5 y5, pairC (wd false u) (wd false v) e2, cx (wd false u) (wd false v), Value.int IntKind.i64 e2, Value.agg #[Value.int IntKind.i64 R, Value.int IntKind.i64 I, Value.int IntKind.i64 S, Value.int IntKind.i64 J, Value.int IntKind.i64 N, Value.int IntKind.i64 M], Value.int IntKind.i64 0, Value.int IntKind.i64 0, Value.bool false, undef, undef, undef, undef, undef, undef, undef, undef, undef, undef, undef, undef, undef, undef, undef, undef, undef, undef, undef, Value.agg #[Value.int IntKind.i64 re, Value.int IntKind.i64 im, Value.int IntKind.i64 kd], Value.bool true, Value.bool false, undef, undef, undef, undef, undef, undef, undef, undef, undef, undef, undef, undef, undef, undef, undef, undef, undef, Value.agg #[Value.int IntKind.i64 re, Value.int IntKind.i64 im, Value.int IntKind.i64 kd], zz a b, Value.pointer (some { block := w2.heap.size, off := 0 }), Value.agg #[Value.int IntKind.i64 R, Value.int IntKind.i64 I], zz (a - R) (b - I), Value.pointer (some { block := w2.heap.size, off := 4 }), Value.pointer (some { block := w2.heap.size, off := 4 }), Value.int IntKind.i64 N, Value.pointer (some { block := w2.heap.size, off := 4 }), Value.pointer (some { block := w2.heap.size, off := 5 }), Value.int IntKind.i64 M, Value.int IntKind.i64 (-M), Value.agg #[Value.int IntKind.i64 N, Value.int IntKind.i64 (-M)], zz X Y, .pointer (some ⟨w2.heap.size, 0, none⟩), .agg #[.int .i64 R, .int .i64 I], .agg #[.int .i64 re, .int .i64 im, .int .i64 kd], zz a b, .pointer (some ⟨w2.heap.size, 4, none⟩), .agg #[.int .i64 N, .int .i64 M], zz X1 Y1, zz X2 Y2, undef, undef, undef, undef, undef, undef, undef, undef, undef, undef, undef, undef, undef, undef, undef, undef, undef, undef, undef, undef, undef, undef, undef, undef, undef, undef, undef, undef, undef, undef, undef, undef, undef, undef, undef, undef, undef], defers := [] } : Act) ∧ LW w 0 [(g2, 39, #[.int .i64 X2, .int .i64 Y2]), (g, 39, #[.int .i64 X, .int .i64 Y]), (w2.heap.size, 48, #[.int .i64 R, .int .i64 I, .int .i64 S, .int .i64 J, .int .i64 N, .int .i64 M]), (w1.heap.size, 45, #[cx x1 y1, cx x2 y2, cx x3 y3]), (w.heap.size + 1, 24, #[.int .i64 re, .int .i64 im, .int .i64 kd]), (w.heap.size, 43, #[.int .i64 re0, .int .i64 im0, .int .i64 k0, .int .i64 re1, .int .i64 im1, .int .i64 k1, .int .i64 re2, .int .i64 im2, .int .i64 k2])] W') ?impb ?regb
      case regb =>
        clear i1 i2 HP HQ HE1 HU HV HE2 z1 z2
        have hge0 : W'.drew.heap.size ≤ W'.heap.size := Nat.le_refl _
        have sv : Hid (∀ W, Below W'.drew.heap.size W'.drew W → Below W'.drew.heap.size W'.drew W ∧ W.cell? ⟨w2.heap.size, 0, none⟩ = some (.int .i64 R) ∧ W.cell? ⟨w2.heap.size, 1, none⟩ = some (.int .i64 I) ∧ W.cell? ⟨w2.heap.size, 4, none⟩ = some (.int .i64 N) ∧ W.cell? ⟨w2.heap.size, 5, none⟩ = some (.int .i64 M) ∧ W.cell? ⟨w.heap.size + 1, 0, none⟩ = some (.int .i64 re) ∧ W.cell? ⟨w.heap.size + 1, 1, none⟩ = some (.int .i64 im) ∧ W.cell? ⟨w.heap.size + 1, 2, none⟩ = some (.int .i64 kd)) := Lib.hid fun W hb => by
          have LL := LD10.out.bel hb
          exact ⟨hb, LL.cell (i := 0) (v := .int .i64 R) (List.mem_cons_of_mem _ (List.mem_cons_self ..)) rfl, LL.cell (i := 1) (v := .int .i64 I) (List.mem_cons_of_mem _ (List.mem_cons_self ..)) rfl, LL.cell (i := 4) (v := .int .i64 N) (List.mem_cons_of_mem _ (List.mem_cons_self ..)) rfl, LL.cell (i := 5) (v := .int .i64 M) (List.mem_cons_of_mem _ (List.mem_cons_self ..)) rfl, LL.cell (i := 0) (v := .int .i64 re) (List.mem_cons_of_mem _ (List.mem_cons_of_mem _ (List.mem_cons_of_mem _ (List.mem_cons_self ..)))) rfl, LL.cell (i := 1) (v := .int .i64 im) (List.mem_cons_of_mem _ (List.mem_cons_of_mem _ (List.mem_cons_of_mem _ (List.mem_cons_self ..)))) rfl, LL.cell (i := 2) (v := .int .i64 kd) (List.mem_cons_of_mem _ (List.mem_cons_of_mem _ (List.mem_cons_of_mem _ (List.mem_cons_self ..)))) rfl⟩
        have BK0 := Below.refl W'.drew.heap.size W'.drew
        go_region_held3 (fun W => Below W'.drew.heap.size W'.drew W ∧ W.cell? ⟨w2.heap.size, 0, none⟩ = some (.int .i64 R) ∧ W.cell? ⟨w2.heap.size, 1, none⟩ = some (.int .i64 I) ∧ W.cell? ⟨w2.heap.size, 4, none⟩ = some (.int .i64 N) ∧ W.cell? ⟨w2.heap.size, 5, none⟩ = some (.int .i64 M) ∧ W.cell? ⟨w.heap.size + 1, 0, none⟩ = some (.int .i64 re) ∧ W.cell? ⟨w.heap.size + 1, 1, none⟩ = some (.int .i64 im) ∧ W.cell? ⟨w.heap.size + 1, 2, none⟩ = some (.int .i64 kd))
          (first | (with_reducible exact sv.out _ BK0) | (with_reducible exact sv.out _ (bt (And.left (by assumption)) hbw)) | (with_reducible exact sv.out _ (bt_alloc (And.left (by assumption)) _)) | (with_reducible exact sv.out _ (bt_allocd (And.left (by assumption)) _)) | (with_reducible exact sv.out _ (bt_re (And.left (by assumption)) (by assumption))) | (with_reducible exact sv.out _ (bt_set (And.left (by assumption)) (by assumption) _)))
          (first | (go_at_call 18; refine (hpl _).mono ?_; rintro e w_ ⟨rfl, hbw⟩; have hge := bt_ge (And.left (by assumption)) hbw; (first | have hRR := RR.bel (k := 2) (t := 39) (by assumption) hbw | have hRR := RR.bel (rr39 _ _ _) hbw | have hRR := RR.bel (rr39d _ _ _) hbw | skip)) | (go_at_call 24; refine (hT2 _).mono ?_; rintro e w_ ⟨rfl, hbw⟩; have hge := bt_ge (And.left (by assumption)) hbw; (first | have hRR := RR.bel (k := 2) (t := 39) (by assumption) hbw | have hRR := RR.bel (rr39 _ _ _) hbw | have hRR := RR.bel (rr39d _ _ _) hbw | skip)) | (go_at_call 26; refine (hA2 _).mono ?_; rintro e w_ ⟨rfl, hbw⟩; have hge := bt_ge (And.left (by assumption)) hbw; (first | have hRR := RR.bel (k := 2) (t := 39) (by assumption) hbw | have hRR := RR.bel (rr39 _ _ _) hbw | have hRR := RR.bel (rr39d _ _ _) hbw | skip)))
        all_goals
          rename_i hK
          first | exact ⟨rfl, _, rfl, LW.add (LD10.out.bel hK.1) (heap_alloc_new _ _)⟩ | exact ⟨rfl, _, rfl, LW.add (LD10.out.bel hK.1) (RR.setRow_row (k := 2) (t := 39) (by assumption) _)⟩
      rintro e a W9 ⟨rfl, g2, rfl, l11⟩
      have LL11 := Lib.hid l11
      clear l11 LD10 hT2 hA2 hpl
      have x0 := LL11.out.cell (i := 0) (v := .int .i64 X) (List.mem_cons_of_mem _ (List.mem_cons_self ..)) rfl
      have x1 := LL11.out.cell (i := 1) (v := .int .i64 Y) (List.mem_cons_of_mem _ (List.mem_cons_self ..)) rfl
      have hz : Ieee.double.order (wd false 0) 0 = some .eq := by decide
      have HI1 := Lib.hid i1
      have HI2 := Lib.hid i2
      clear i1 i2
      go_wp2_with fail
      refine (z1 _).mono ?_
      rintro e w11 ⟨rfl, hb11⟩
      have LL12 := Lib.hid (LL11.out.bel hb11)
      clear hb11 LL11 x0 x1 z1
      have x0 := LL12.out.cell (i := 0) (v := .int .i64 X) (List.mem_cons_of_mem _ (List.mem_cons_self ..)) rfl
      have x1 := LL12.out.cell (i := 1) (v := .int .i64 Y) (List.mem_cons_of_mem _ (List.mem_cons_self ..)) rfl
      cases hq1 : rightB X Y with
      | false =>
        have h_ := hq1
        obtain rfl : 10 = e1 := (gE_n hq1).symm.trans HE1.out
        obtain rfl : 0 = p := (gV_n hq1).symm.trans HP.out
        obtain rfl : 0 = q := (gV_n hq1).symm.trans HQ.out
        clear HE1 HP HQ h_ hq1
        have LL13 := LL12
        clear LL12 x0 x1 HI1
        have y0 := LL13.out.cell (i := 0) (v := .int .i64 X2) (List.mem_cons_self ..) rfl
        have y1 := LL13.out.cell (i := 1) (v := .int .i64 Y2) (List.mem_cons_self ..) rfl
        go_wp2_with fail
        refine (z2 _).mono ?_
        rintro e w13 ⟨rfl, hb13⟩
        have LL14 := Lib.hid (LL13.out.bel hb13)
        clear hb13 LL13 y0 y1 z2
        have y0 := LL14.out.cell (i := 0) (v := .int .i64 X2) (List.mem_cons_self ..) rfl
        have y1 := LL14.out.cell (i := 1) (v := .int .i64 Y2) (List.mem_cons_self ..) rfl
        cases hq2 : rightB X2 Y2 with
        | false =>
          obtain rfl : 10 = e2 := (gE_n hq2).symm.trans HE2.out
          obtain rfl : 0 = u := (gV_n hq2).symm.trans HU.out
          obtain rfl : 0 = v := (gV_n hq2).symm.trans HV.out
          clear HE2 HU HV hq2
          have LL15 := LL14
          clear LL14 y0 y1 HI2
          go_wp2_with fail
          refine (awake_any _).mono ?_
          rintro e w15 ⟨rfl, hb15⟩
          have LL16 := Lib.hid (LL15.out.bel hb15)
          clear hb15 LL15
          go_wp2
          go_ret
          exact ⟨rfl, LL16.out.below⟩
        | true =>
          obtain rfl : 0 = e2 := (gE_y hq2).symm.trans HE2.out
          obtain rfl : X2 = u := (gV_y hq2).symm.trans HU.out
          obtain rfl : Y2 = v := (gV_y hq2).symm.trans HV.out
          clear HE2 HU HV hq2
          have i2 := HI2.out
          clear HI2
          go_wp2_with fail
          refine (i2 _).mono ?_
          rintro e w14 ⟨rfl, hb14⟩
          have LL15 := Lib.hid (LL14.out.bel hb14)
          clear hb14 LL14 y0 y1 i2
          go_wp2_with fail
          refine (awake_any _).mono ?_
          rintro e w15 ⟨rfl, hb15⟩
          have LL16 := Lib.hid (LL15.out.bel hb15)
          clear hb15 LL15
          go_wp2
          go_ret
          exact ⟨rfl, LL16.out.below⟩
      | true =>
        have h_ := hq1
        obtain rfl : 0 = e1 := (gE_y hq1).symm.trans HE1.out
        obtain rfl : X = p := (gV_y hq1).symm.trans HP.out
        obtain rfl : Y = q := (gV_y hq1).symm.trans HQ.out
        clear HE1 HP HQ h_ hq1
        have i1 := HI1.out
        clear HI1
        go_wp2_with fail
        refine (i1 _).mono ?_
        rintro e w12 ⟨rfl, hb12⟩
        have LL13 := Lib.hid (LL12.out.bel hb12)
        clear hb12 LL12 x0 x1 i1
        have y0 := LL13.out.cell (i := 0) (v := .int .i64 X2) (List.mem_cons_self ..) rfl
        have y1 := LL13.out.cell (i := 1) (v := .int .i64 Y2) (List.mem_cons_self ..) rfl
        go_wp2_with fail
        refine (z2 _).mono ?_
        rintro e w13 ⟨rfl, hb13⟩
        have LL14 := Lib.hid (LL13.out.bel hb13)
        clear hb13 LL13 y0 y1 z2
        have y0 := LL14.out.cell (i := 0) (v := .int .i64 X2) (List.mem_cons_self ..) rfl
        have y1 := LL14.out.cell (i := 1) (v := .int .i64 Y2) (List.mem_cons_self ..) rfl
        cases hq2 : rightB X2 Y2 with
        | false =>
          obtain rfl : 10 = e2 := (gE_n hq2).symm.trans HE2.out
          obtain rfl : 0 = u := (gV_n hq2).symm.trans HU.out
          obtain rfl : 0 = v := (gV_n hq2).symm.trans HV.out
          clear HE2 HU HV hq2
          have LL15 := LL14
          clear LL14 y0 y1 HI2
          go_wp2_with fail
          refine (awake_any _).mono ?_
          rintro e w15 ⟨rfl, hb15⟩
          have LL16 := Lib.hid (LL15.out.bel hb15)
          clear hb15 LL15
          go_wp2
          go_ret
          exact ⟨rfl, LL16.out.below⟩
        | true =>
          obtain rfl : 0 = e2 := (gE_y hq2).symm.trans HE2.out
          obtain rfl : X2 = u := (gV_y hq2).symm.trans HU.out
          obtain rfl : Y2 = v := (gV_y hq2).symm.trans HV.out
          clear HE2 HU HV hq2
          have i2 := HI2.out
          clear HI2
          go_wp2_with fail
          refine (i2 _).mono ?_
          rintro e w14 ⟨rfl, hb14⟩
          have LL15 := Lib.hid (LL14.out.bel hb14)
          clear hb14 LL14 y0 y1 i2
          go_wp2_with fail
          refine (awake_any _).mono ?_
          rintro e w15 ⟨rfl, hb15⟩
          have LL16 := Lib.hid (LL15.out.bel hb15)
          clear hb15 LL15
          go_wp2
          go_ret
          exact ⟨rfl, LL16.out.below⟩
  · obtain rfl : 0 = p := (gV_ck hc).symm.trans HP.out
    obtain rfl : 0 = q := (gV_ck hc).symm.trans HQ.out
    obtain rfl : ckF R I S J N M = e1 := (gE_ck hc).symm.trans HE1.out
    obtain rfl : 0 = u := (gV_ck hc).symm.trans HU.out
    obtain rfl : 0 = v := (gV_ck hc).symm.trans HV.out
    obtain rfl : ckF R I S J N M = e2 := (gE_ck hc).symm.trans HE2.out
    have hz : Ieee.double.order (wd false 0) 0 = some .eq := by decide
    clear HP HQ HE1 HU HV HE2
    generalize ckF R I S J N M = c at *
    have hne : (c != 0) = true := by simp [bne, hc]
    clear hc
    go_wp2_with fail
    refine (awake_any _).mono ?_
    rintro e w9 ⟨rfl, hb9⟩
    have LL9 := Lib.hid (LL8.out.bel hb9)
    clear LL8 hb9
    go_wp2
    go_ret
    exact ⟨rfl, LL9.out.below⟩
end Go.Proofs.Ytbgllbjkmjlipaa
