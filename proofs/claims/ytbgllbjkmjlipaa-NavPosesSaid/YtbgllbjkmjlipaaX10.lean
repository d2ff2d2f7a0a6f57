/- The walk of NavPoses. -/
import Derived.Test.YtbgllbjkmjlipaaN14
namespace Go.Proofs.Ytbgllbjkmjlipaa
open Go.RowKit
attribute [local go_sem] fmt64
attribute [local go_sem ↓] st45 st48
attribute [local go_sem] st45_run st48_run rr45 rr48 World.setRow_alloc_new

set_option maxRecDepth 100000 in
set_option maxHeartbeats 8000000 in
theorem navPoses_walk (re0 im0 k0 re1 im1 k1 re2 im2 k2 : Int) (A : Option Addr) (n cap : Nat) (x : Nat → Nat) (w : World) (hN : Wds w w.heap.size A n x) :
    Calls Try.prog 10 #[.agg #[.int .i64 re0, .int .i64 im0, .int .i64 k0, .int .i64 re1, .int .i64 im1, .int .i64 k1, .int .i64 re2, .int .i64 im2, .int .i64 k2], .slice A n cap] w fun e w' => e = .returned (.bool true) ∧ Below w.heap.size w w' := by
  have hp := pose_any re0 im0 k0 re1 im1 k1 re2 im2 k2
  have hpp := plainPose_any re0 im0 k0 re1 im1 k1 re2 im2 k2
  have L0 := Lib.hid ((LW.nil w).new 43 #[.int .i64 re0, .int .i64 im0, .int .i64 k0, .int .i64 re1, .int .i64 im1, .int .i64 k1, .int .i64 re2, .int .i64 im2, .int .i64 k2])
  generalize plR re0 im0 k0 = R at *
  generalize plI re0 im0 k0 = I at *
  generalize plR re1 im1 k1 = S at *
  generalize plI re1 im1 k1 = J at *
  generalize plR re2 im2 k2 = N at *
  generalize plI re2 im2 k2 = M at *
  by_cases h10 : 10 < n
  · have d0 : decide ((n : Int) > 10) = true := by simp; omega
    have d1 : decide ((10 : Int) < (n : Int)) = true := by simp; omega
    clear hN hp hpp h10
    go_enter Try.func10, Try.ntmps10
    go_wp2_with fail
    refine (awake_any _).mono ?_
    rintro e wz ⟨rfl, hb⟩
    have Lz := Lib.hid (L0.out.bel hb)
    clear hb
    go_wp2
    go_ret
    exact ⟨rfl, Lz.out.below⟩
  have d0 : decide ((n : Int) > 10) = false := by simp; omega
  have d1 : decide ((10 : Int) < (n : Int)) = false := by simp; omega
  obtain ⟨R', I', S', J', N', M', c', b1, b2, b3, hd1, hd2⟩ := both_decode (cap := cap) (by omega) hN
  have HI := Lib.hid (isPose_any R' I' S' J' N' M' b1 b2 b3)
  have hrc := rcheck_any R I S J N M
  have HN := Lib.hid hN
  clear hN b1 b2 b3 h10
  obtain ⟨ck, hck⟩ : ∃ q, ckF R I S J N M = q := ⟨_, rfl⟩
  rw [hck] at hrc
  have HCK := Lib.hid hck
  clear hck
  go_enter Try.func10, Try.ntmps10
  have f0 := L0.out.cell (i := 0) (v := .int .i64 re0) (List.mem_cons_self ..) rfl
  have f1 := L0.out.cell (i := 1) (v := .int .i64 im0) (List.mem_cons_self ..) rfl
  have f2 := L0.out.cell (i := 2) (v := .int .i64 k0) (List.mem_cons_self ..) rfl
  have f3 := L0.out.cell (i := 3) (v := .int .i64 re1) (List.mem_cons_self ..) rfl
  have f4 := L0.out.cell (i := 4) (v := .int .i64 im1) (List.mem_cons_self ..) rfl
  have f5 := L0.out.cell (i := 5) (v := .int .i64 k1) (List.mem_cons_self ..) rfl
  have f6 := L0.out.cell (i := 6) (v := .int .i64 re2) (List.mem_cons_self ..) rfl
  have f7 := L0.out.cell (i := 7) (v := .int .i64 im2) (List.mem_cons_self ..) rfl
  have f8 := L0.out.cell (i := 8) (v := .int .i64 k2) (List.mem_cons_self ..) rfl
  go_wp2_with fail
  refine (hpp _).mono ?_
  rintro e w1 ⟨rfl, hb⟩
  have Lw1 := Lib.hid (L0.out.bel hb)
  clear hb L0 f0 f1 f2 f3 f4 f5 f6 f7 f8
  go_wp2_with fail
  refine (hrc _).mono ?_
  rintro e w2 ⟨rfl, hb⟩
  have Lw2 := Lib.hid (Lw1.out.bel hb)
  clear hb Lw1 
  clear hrc d0 d1
  have f9 := Lw2.out.cell (i := 0) (v := .int .i64 re0) (List.mem_cons_self ..) rfl
  have f10 := Lw2.out.cell (i := 1) (v := .int .i64 im0) (List.mem_cons_self ..) rfl
  have f11 := Lw2.out.cell (i := 2) (v := .int .i64 k0) (List.mem_cons_self ..) rfl
  have f12 := Lw2.out.cell (i := 3) (v := .int .i64 re1) (List.mem_cons_self ..) rfl
  have f13 := Lw2.out.cell (i := 4) (v := .int .i64 im1) (List.mem_cons_self ..) rfl
  have f14 := Lw2.out.cell (i := 5) (v := .int .i64 k1) (List.mem_cons_self ..) rfl
  have f15 := Lw2.out.cell (i := 6) (v := .int .i64 re2) (List.mem_cons_self ..) rfl
  have f16 := Lw2.out.cell (i := 7) (v := .int .i64 im2) (List.mem_cons_self ..) rfl
  have f17 := Lw2.out.cell (i := 8) (v := .int .i64 k2) (List.mem_cons_self ..) rfl
  go_wp2_with fail
  refine (hp _).mono ?_
  rintro e w3 ⟨x1, y1, x2, y2, x3, y3, rfl, n1, n2, n3, hb⟩
  have Lw3 := Lib.hid (Lw2.out.bel hb)
  clear hb Lw2 f9 f10 f11 f12 f13 f14 f15 f16 f17
  have hca := check_any _ _ _ _ _ _ _ _ _ _ _ _ n1 n2 n3
  rw [HCK.out] at hca
  by_cases hz : ck = 0
  · subst hz
    obtain ⟨g1, g2, g3⟩ := ck_zero HCK.out
    have bR := right_bd g1
    have bS := right_bd g2
    have bN := right_bd (nose_bd g3)
    have HG1 := Lib.hid g1
    have HG2 := Lib.hid g2
    have HG3 := Lib.hid g3
    obtain ⟨rfl, rfl⟩ := num_right n1 g1
    obtain ⟨rfl, rfl⟩ := num_right n2 g2
    obtain ⟨rfl, rfl⟩ := num_right n3 (nose_bd g3)
    have henc := nencode_ok R I S J N M bR.1 bR.2 bS.1 bS.2 bN.1 bN.2 hca
    have hdo := fun (W : World) (g : Nat) (ho : W.ownsRow w.heap.size 119 1 (.slice (some ⟨g, 0, none⟩) 3 3) 3 (u3 fun k => wrdF (f3 R I S J N M k).1 (f3 R I S J N M k).2)) => decode_own bR bS bN HCK.out ho
    have hrn := rencode_any R I S J N M bR.1 bR.2 bS.1 bS.2 bN.1 bN.2
    have hip0 := isPose_any R I S J N M bR bS bN
    clear bR bS bN g1 g2 g3 n1 n2 n3
    go_wp2_with fail
    refine (henc _).mono ?_
    rintro e w4 ⟨go, rfl, hown, hb⟩
    have Lw4 := Lib.hid (Lw3.out.bel hb)
    have HO4 := Lib.hid (own_low hown Lw3.out.below.size)
    clear henc hown
    clear hb Lw3 
    have f0 := Lw4.out.cell (i := 0) (v := .int .i64 re0) (List.mem_cons_self ..) rfl
    have f1 := Lw4.out.cell (i := 1) (v := .int .i64 im0) (List.mem_cons_self ..) rfl
    have f2 := Lw4.out.cell (i := 2) (v := .int .i64 k0) (List.mem_cons_self ..) rfl
    have f3 := Lw4.out.cell (i := 3) (v := .int .i64 re1) (List.mem_cons_self ..) rfl
    have f4 := Lw4.out.cell (i := 4) (v := .int .i64 im1) (List.mem_cons_self ..) rfl
    have f5 := Lw4.out.cell (i := 5) (v := .int .i64 k1) (List.mem_cons_self ..) rfl
    have f6 := Lw4.out.cell (i := 6) (v := .int .i64 re2) (List.mem_cons_self ..) rfl
    have f7 := Lw4.out.cell (i := 7) (v := .int .i64 im2) (List.mem_cons_self ..) rfl
    have f8 := Lw4.out.cell (i := 8) (v := .int .i64 k2) (List.mem_cons_self ..) rfl
    go_wp2_with fail
    refine (hp _).mono ?_
    rintro e w5 ⟨x1, y1, x2, y2, x3, y3, rfl, n1, n2, n3, hb⟩
    have Lw5 := Lib.hid (Lw4.out.bel hb)
    have HO5 := Lib.hid (ownsRow_bel HO4.out hb)
    clear HO4
    clear hb Lw4 f0 f1 f2 f3 f4 f5 f6 f7 f8
    have hcb := check_any _ _ _ _ _ _ _ _ _ _ _ _ n1 n2 n3
    rw [HCK.out] at hcb
    clear n1 n2 n3 hp hca
    go_wp2_with fail
    refine (hcb _).mono ?_
    rintro e w6 ⟨rfl, hb⟩
    have Lw6 := Lib.hid (Lw5.out.bel hb)
    have HO6 := Lib.hid (ownsRow_bel HO5.out hb)
    clear HO5 hcb
    clear hb Lw5 
    have hdo2 := hdo _ _ HO6.out
    clear hdo
    go_wp2_with fail
    refine (hdo2).mono ?_
    rintro e w7 ⟨rfl, hb⟩
    have Lw7 := Lib.hid (Lw6.out.bel hb)
    have HO7 := Lib.hid ((ownsRow_bel HO6.out hb).alloc (.cells #[cx (wd false R) (wd false I), cx (wd false S) (wd false J), cx (wd false N) (wd false M)] 45))
    clear HO6 hdo2
    clear hb Lw6 
    have Lw7n := Lib.hid (Lw7.out.new 45 #[cx (wd false R) (wd false I), cx (wd false S) (wd false J), cx (wd false N) (wd false M)])
    clear Lw7
    go_wp2
    have hwn : w7.heap.size < (w7.alloc (.cells #[cx (wd false R) (wd false I), cx (wd false S) (wd false J), cx (wd false N) (wd false M)] 45)).heap.size := by simp
    generalize hWg : w7.alloc (.cells #[cx (wd false R) (wd false I), cx (wd false S) (wd false J), cx (wd false N) (wd false M)] 45) = w8 at *
    clear hWg
    have LD := Lib.hid Lw7n.out.drew
    clear Lw7n
    have HLW : Hid (∀ W, Below w8.drew.heap.size w8.drew W → ∀ k, k < 3 → W.cell? ⟨go, k, none⟩ = some (.int .u64 (wrdF (f3 R I S J N M k).1 (f3 R I S J N M k).2 : Nat))) := Lib.hid fun W hb k hk => u3_at (ownsRow_bel (W := w8.drew) HO7.out hb) hk
    have sv : Hid (∀ W, Below w8.drew.heap.size w8.drew W → Below w8.drew.heap.size w8.drew W ∧ W.cell? ⟨w.heap.size, 0, none⟩ = some (.int .i64 re0) ∧ W.cell? ⟨w.heap.size, 1, none⟩ = some (.int .i64 im0) ∧ W.cell? ⟨w.heap.size, 2, none⟩ = some (.int .i64 k0) ∧ W.cell? ⟨w.heap.size, 3, none⟩ = some (.int .i64 re1) ∧ W.cell? ⟨w.heap.size, 4, none⟩ = some (.int .i64 im1) ∧ W.cell? ⟨w.heap.size, 5, none⟩ = some (.int .i64 k1) ∧ W.cell? ⟨w.heap.size, 6, none⟩ = some (.int .i64 re2) ∧ W.cell? ⟨w.heap.size, 7, none⟩ = some (.int .i64 im2) ∧ W.cell? ⟨w.heap.size, 8, none⟩ = some (.int .i64 k2) ∧ W.cell? ⟨w7.heap.size, 0, none⟩ = some (cx (wd false R) (wd false I)) ∧ W.cell? ⟨w7.heap.size, 1, none⟩ = some (cx (wd false S) (wd false J)) ∧ W.cell? ⟨w7.heap.size, 2, none⟩ = some (cx (wd false N) (wd false M))) := Lib.hid fun W hb => by
      have LL := LD.out.bel hb
      exact ⟨hb, LL.cell (i := 0) (v := .int .i64 re0) (List.mem_cons_of_mem _ (List.mem_cons_self ..)) rfl, LL.cell (i := 1) (v := .int .i64 im0) (List.mem_cons_of_mem _ (List.mem_cons_self ..)) rfl, LL.cell (i := 2) (v := .int .i64 k0) (List.mem_cons_of_mem _ (List.mem_cons_self ..)) rfl, LL.cell (i := 3) (v := .int .i64 re1) (List.mem_cons_of_mem _ (List.mem_cons_self ..)) rfl, LL.cell (i := 4) (v := .int .i64 im1) (List.mem_cons_of_mem _ (List.mem_cons_self ..)) rfl, LL.cell (i := 5) (v := .int .i64 k1) (List.mem_cons_of_mem _ (List.mem_cons_self ..)) rfl, LL.cell (i := 6) (v := .int .i64 re2) (List.mem_cons_of_mem _ (List.mem_cons_self ..)) rfl, LL.cell (i := 7) (v := .int .i64 im2) (List.mem_cons_of_mem _ (List.mem_cons_self ..)) rfl, LL.cell (i := 8) (v := .int .i64 k2) (List.mem_cons_of_mem _ (List.mem_cons_self ..)) rfl, LL.cell (i := 0) (v := cx (wd false R) (wd false I)) (List.mem_cons_self ..) rfl, LL.cell (i := 1) (v := cx (wd false S) (wd false J)) (List.mem_cons_self ..) rfl, LL.cell (i := 2) (v := cx (wd false N) (wd false M)) (List.mem_cons_self ..) rfl⟩
    have BK0 := Below.refl w8.drew.heap.size w8.drew
    go_region_held3 (fun W => Below w8.drew.heap.size w8.drew W ∧ W.cell? ⟨w.heap.size, 0, none⟩ = some (.int .i64 re0) ∧ W.cell? ⟨w.heap.size, 1, none⟩ = some (.int .i64 im0) ∧ W.cell? ⟨w.heap.size, 2, none⟩ = some (.int .i64 k0) ∧ W.cell? ⟨w.heap.size, 3, none⟩ = some (.int .i64 re1) ∧ W.cell? ⟨w.heap.size, 4, none⟩ = some (.int .i64 im1) ∧ W.cell? ⟨w.heap.size, 5, none⟩ = some (.int .i64 k1) ∧ W.cell? ⟨w.heap.size, 6, none⟩ = some (.int .i64 re2) ∧ W.cell? ⟨w.heap.size, 7, none⟩ = some (.int .i64 im2) ∧ W.cell? ⟨w.heap.size, 8, none⟩ = some (.int .i64 k2) ∧ W.cell? ⟨w7.heap.size, 0, none⟩ = some (cx (wd false R) (wd false I)) ∧ W.cell? ⟨w7.heap.size, 1, none⟩ = some (cx (wd false S) (wd false J)) ∧ W.cell? ⟨w7.heap.size, 2, none⟩ = some (cx (wd false N) (wd false M)))
      (first | (with_reducible exact sv.out _ BK0) | (with_reducible assumption) | (with_reducible exact sv.out _ (bt (And.left (by assumption)) hbw)))
      (first | (go_at_call 20; refine (hpp _).mono ?_; rintro e w_ ⟨rfl, hbw⟩) | (go_at_call 44; refine (hrn _).mono ?_; rintro e w_ ⟨g, rfl, hown2, hbw⟩) | (go_at_call 43; refine (words_same _ _ _ _ (fun k => wrdF (f3 R I S J N M k).1 (f3 R I S J N M k).2) _ (fun k hk => ⟨HLW.out _ (And.left (by assumption)) k hk, u3_at hown2 hk⟩)).mono ?_; rintro e w_ ⟨rfl, hbw⟩) | (go_at_call 35; refine (hip0 _).mono ?_; rintro e w_ ⟨rfl, hbw⟩))
    rename_i hK
    have L9 := Lib.hid (LD.out.bel hK.1)
    clear hK sv BK0 hrn hip0 hpp HLW HO7 LD hwn
    skip
    go_wp2_with fail
    refine (hd1 _ L9.out.below).mono ?_
    rintro e w20 ⟨rfl, hb⟩
    have Lw20 := Lib.hid (L9.out.bel hb)
    clear hb L9 
    have Lw20n := Lib.hid (Lw20.out.new 45 #[cx (wd false R') (wd false I'), cx (wd false S') (wd false J'), cx (wd false N') (wd false M')])
    clear Lw20
    go_wp2_with fail
    refine (hd2 _ Lw20n.out.below).mono ?_
    rintro e w21 ⟨rfl, hb⟩
    have Lw21 := Lib.hid (Lw20n.out.bel hb)
    clear hb Lw20n 
    have Lw21n := Lib.hid (Lw21.out.new 48 #[.int .i64 R', .int .i64 I', .int .i64 S', .int .i64 J', .int .i64 N', .int .i64 M'])
    clear Lw21
    clear hd1 hd2
    have hip := HI.out
    have f9 := Lw21n.out.cell (i := 0) (v := cx (wd false R') (wd false I')) (List.mem_cons_of_mem _ (List.mem_cons_self ..)) rfl
    have f10 := Lw21n.out.cell (i := 1) (v := cx (wd false S') (wd false J')) (List.mem_cons_of_mem _ (List.mem_cons_self ..)) rfl
    have f11 := Lw21n.out.cell (i := 2) (v := cx (wd false N') (wd false M')) (List.mem_cons_of_mem _ (List.mem_cons_self ..)) rfl
    have f12 := Lw21n.out.cell (i := 0) (v := .int .i64 R') (List.mem_cons_self ..) rfl
    have f13 := Lw21n.out.cell (i := 1) (v := .int .i64 I') (List.mem_cons_self ..) rfl
    have f14 := Lw21n.out.cell (i := 2) (v := .int .i64 S') (List.mem_cons_self ..) rfl
    have f15 := Lw21n.out.cell (i := 3) (v := .int .i64 J') (List.mem_cons_self ..) rfl
    have f16 := Lw21n.out.cell (i := 4) (v := .int .i64 N') (List.mem_cons_self ..) rfl
    have f17 := Lw21n.out.cell (i := 5) (v := .int .i64 M') (List.mem_cons_self ..) rfl
    go_wp2_with fail
    refine (hip _).mono ?_
    rintro e w22 ⟨rfl, hb⟩
    have Lw22 := Lib.hid (Lw21n.out.bel hb)
    clear hb Lw21n f9 f10 f11 f12 f13 f14 f15 f16 f17
    go_wp2_with fail
    refine (awake_any _).mono ?_
    rintro e wz ⟨rfl, hb⟩
    have Lwz := Lib.hid (Lw22.out.bel hb)
    clear hb Lw22 
    go_wp2
    go_ret
    exact ⟨rfl, Lwz.out.below⟩
  · have hne : (ck != 0) = true := by simp [bne, hz]
    have henc := nencode_no _ _ _ _ _ _ ck hca hz
    clear n1 n2 n3 hca hz hpp
    go_wp2_with fail
    refine (henc _).mono ?_
    rintro e w4 ⟨rfl, hb⟩
    have Lw4 := Lib.hid (Lw3.out.bel hb)
    clear henc
    clear hb Lw3 
    have f0 := Lw4.out.cell (i := 0) (v := .int .i64 re0) (List.mem_cons_self ..) rfl
    have f1 := Lw4.out.cell (i := 1) (v := .int .i64 im0) (List.mem_cons_self ..) rfl
    have f2 := Lw4.out.cell (i := 2) (v := .int .i64 k0) (List.mem_cons_self ..) rfl
    have f3 := Lw4.out.cell (i := 3) (v := .int .i64 re1) (List.mem_cons_self ..) rfl
    have f4 := Lw4.out.cell (i := 4) (v := .int .i64 im1) (List.mem_cons_self ..) rfl
    have f5 := Lw4.out.cell (i := 5) (v := .int .i64 k1) (List.mem_cons_self ..) rfl
    have f6 := Lw4.out.cell (i := 6) (v := .int .i64 re2) (List.mem_cons_self ..) rfl
    have f7 := Lw4.out.cell (i := 7) (v := .int .i64 im2) (List.mem_cons_self ..) rfl
    have f8 := Lw4.out.cell (i := 8) (v := .int .i64 k2) (List.mem_cons_self ..) rfl
    go_wp2_with fail
    refine (hp _).mono ?_
    rintro e w5 ⟨x1, y1, x2, y2, x3, y3, rfl, n1, n2, n3, hb⟩
    have Lw5 := Lib.hid (Lw4.out.bel hb)
    clear hb Lw4 f0 f1 f2 f3 f4 f5 f6 f7 f8
    have hcb := check_any _ _ _ _ _ _ _ _ _ _ _ _ n1 n2 n3
    rw [HCK.out] at hcb
    clear n1 n2 n3 hp
    go_wp2_with fail
    refine (hcb _).mono ?_
    rintro e w6 ⟨rfl, hb⟩
    have Lw6 := Lib.hid (Lw5.out.bel hb)
    clear hcb
    clear hb Lw5 
    go_wp2_with fail
    refine (hd1 _ Lw6.out.below).mono ?_
    rintro e w20 ⟨rfl, hb⟩
    have Lw20 := Lib.hid (Lw6.out.bel hb)
    clear hb Lw6 
    have Lw20n := Lib.hid (Lw20.out.new 45 #[cx (wd false R') (wd false I'), cx (wd false S') (wd false J'), cx (wd false N') (wd false M')])
    clear Lw20
    go_wp2_with fail
    refine (hd2 _ Lw20n.out.below).mono ?_
    rintro e w21 ⟨rfl, hb⟩
    have Lw21 := Lib.hid (Lw20n.out.bel hb)
    clear hb Lw20n 
    have Lw21n := Lib.hid (Lw21.out.new 48 #[.int .i64 R', .int .i64 I', .int .i64 S', .int .i64 J', .int .i64 N', .int .i64 M'])
    clear Lw21
    clear hd1 hd2
    have hip := HI.out
    have f9 := Lw21n.out.cell (i := 0) (v := cx (wd false R') (wd false I')) (List.mem_cons_of_mem _ (List.mem_cons_self ..)) rfl
    have f10 := Lw21n.out.cell (i := 1) (v := cx (wd false S') (wd false J')) (List.mem_cons_of_mem _ (List.mem_cons_self ..)) rfl
    have f11 := Lw21n.out.cell (i := 2) (v := cx (wd false N') (wd false M')) (List.mem_cons_of_mem _ (List.mem_cons_self ..)) rfl
    have f12 := Lw21n.out.cell (i := 0) (v := .int .i64 R') (List.mem_cons_self ..) rfl
    have f13 := Lw21n.out.cell (i := 1) (v := .int .i64 I') (List.mem_cons_self ..) rfl
    have f14 := Lw21n.out.cell (i := 2) (v := .int .i64 S') (List.mem_cons_self ..) rfl
    have f15 := Lw21n.out.cell (i := 3) (v := .int .i64 J') (List.mem_cons_self ..) rfl
    have f16 := Lw21n.out.cell (i := 4) (v := .int .i64 N') (List.mem_cons_self ..) rfl
    have f17 := Lw21n.out.cell (i := 5) (v := .int .i64 M') (List.mem_cons_self ..) rfl
    go_wp2_with fail
    refine (hip _).mono ?_
    rintro e w22 ⟨rfl, hb⟩
    have Lw22 := Lib.hid (Lw21n.out.bel hb)
    clear hb Lw21n f9 f10 f11 f12 f13 f14 f15 f16 f17
    go_wp2_with fail
    refine (awake_any _).mono ?_
    rintro e wz ⟨rfl, hb⟩
    have Lwz := Lib.hid (Lw22.out.bel hb)
    clear hb Lw22 
    go_wp2
    go_ret
    exact ⟨rfl, Lwz.out.below⟩
end Go.Proofs.Ytbgllbjkmjlipaa
