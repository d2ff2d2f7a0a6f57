/- Contract: Blend, of a pose and a fix that may be. -/
import Derived.Test.YtbgllbjkmjlipaaS
namespace Go.Proofs.Ytbgllbjkmjlipaa
open Go.RowKit
attribute [local go_sem] fmt64
attribute [local go_sem ↓] st45
attribute [local go_sem] st45_run

theorem rowtmp_res {fn : Func} {p q : Tmp} (hf : fn.results = #[.cell p 45, .tmp q]) {w W : World} {g : Nat} (hr : RR g 3 45 W) (hb : Below w.heap.size w W) (hg : w.heap.size ≤ g) (tmps : Array Value) (a1 b1 a2 b2 a3 b3 : Nat) (e : Int)
    (hp : tmps.getD p undef = .pointer (some ⟨g, 0, none⟩)) (hq : tmps.getD q undef = .int .i64 e) {R : Ending → World → Prop}
    (hR : ∀ W', Below w.heap.size w W' → R (.returned (pairP a1 b1 a2 b2 a3 b3 e)) W') :
    bodyPost Try.prog fn R .ret { tmps := tmps, defers := [] } (W.setRow g #[cx a1 b1, cx a2 b2, cx a3 b3]) := by
  refine bodyPost_ret (results_row_tmp hf _ _ g 45 #[cx a1 b1, cx a2 b2, cx a3 b3] (0, 0) _ hp (hr.setRow_row _) Try.underlying45 rfl (by kernel_rfl)) rfl ?_
  rw [hq]
  exact hR _ (below_setRow hb hg _)
set_option maxRecDepth 100000 in
set_option maxHeartbeats 1000000 in
theorem blend_ok (R I S J N M a b k : Int) (h1 : rightB R I = true) (h2 : rightB S J = true) (h3 : noseB N M = true) (h4 : rightB a b = true) (hk : 0 ≤ k ∧ k ≤ 16) (w : World) :
    Calls Try.prog 33 #[ps (wd false R) (wd false I) (wd false S) (wd false J) (wd false N) (wd false M), cx (wd false a) (wd false b), .int .i64 k] w fun e w' =>
      e = .returned (pairP (wd false (partF R a k)) (wd false (partF I b k)) (wd false S) (wd false J) (wd false N) (wd false M) 0) ∧ Below w.heap.size w w' := by
  have hN := right_bd (nose_bd h3)
  have hR := right_bd h1
  have hS := right_bd h2
  have hA := right_bd h4
  have hc := check_any (wd false R) (wd false I) (wd false S) (wd false J) (wd false N) (wd false M) R I S J N M (.inl ⟨h1, rfl, rfl⟩) (.inl ⟨h2, rfl, rfl⟩) (.inl ⟨nose_bd h3, rfl, rfl⟩)
  rw [ck_yes h1 h2, h3, if_pos rfl] at hc
  have hm := may_any (wd false a) (wd false b)
  rw [may_wd _ _ _ _ (by omega) (by omega), h4] at hm
  have t1 := tdiv_bd (a - R) k hk 2097152 (by omega)
  have t2 := tdiv_bd (b - I) k hk 2097152 (by omega)
  have P1 : PW k (wd false R) (wd false a) (wd false (partF R a k)) := ⟨false, false, R, a, rfl, rfl, by omega, by omega, rfl⟩
  have P2 : PW k (wd false I) (wd false b) (wd false (partF I b k)) := ⟨false, false, I, b, rfl, rfl, by omega, by omega, rfl⟩
  have hp := put_any (wd false R) (wd false I) false false (partF R a k) (partF I b k) S J N M (by unfold partF; omega) (by unfold partF; omega) (by omega) (by omega) (by omega) (by omega)
  have d0 : decide (k < 0) = false := by simp; omega
  have d1 : decide (16 < k) = false := by simp; omega
  have HB := Lib.hid (Box3.new w (wd false R) (wd false I) (wd false S) (wd false J) (wd false N) (wd false M) k)
  have b1 := blend1_any k hk
  clear h1 h2 h3 h4 hN hR hS hA t1 t2
  generalize wd false R = x1 at *
  generalize wd false I = y1 at *
  generalize wd false S = x2 at *
  generalize wd false J = y2 at *
  generalize wd false N = x3 at *
  generalize wd false M = y3 at *
  generalize wd false (partF R a k) = v at *
  generalize wd false (partF I b k) = u at *
  generalize wd false a = x at *
  generalize wd false b = y at *
  go_enter Try.func33, Try.ntmps33
  go_wp2_with fail
  refine (hc _).mono ?_
  rintro e w1 ⟨rfl, hb1⟩
  have H1 := Lib.hid (HB.out.bel hb1)
  clear hb1 HB hc
  go_wp2_with fail
  refine (hm _).mono ?_
  rintro e w2 ⟨rfl, hb2⟩
  have h2 := H1.out.bel hb2
  have z2 := h2.wt.cell
  have H2 := Lib.hid h2
  clear hb2 H1 hm h2
  have HK0 := H2.out.four
  go_wp2
  refine wp_region_noPanic ?_
  refine wp_region_held_drew (S := (fun W => W.cell? ⟨w.heap.size, 0, none⟩ = some (cx x1 y1) ∧ W.cell? ⟨w.heap.size, 1, none⟩ = some (cx x2 y2) ∧ W.cell? ⟨w.heap.size, 2, none⟩ = some (cx x3 y3) ∧ W.cell? ⟨w.heap.size + 1, 0, none⟩ = some (.int .i64 k) ∧ RR (w.heap.size + 1 + 1) 3 45 W ∧ Below w.heap.size w W ∧ w.heap.size + 1 + 1 < W.heap.size)) (by kernel_rfl) HK0 (fun hHeld => ?_)
  refine wpAnyH_take (i := 0) (oi := _) (v := ?v0) rfl (by kernel_rfl) (by kernel_rfl) (by kernel_rfl) (fun _ _ _ h => h) (Or.inl ⟨by rfl, ?y0⟩) (by assumption) ?r0
  case y0 => intro W hSw; (try dsimp only at hSw); go_simp; (try with_reducible rfl)
  (try dsimp only [Act.put, List.setIfInBounds_toArray, List.set_cons_zero, List.set_cons_succ])
  refine wpAnyH_take (i := 1) (oi := _) (v := ?v1) rfl (by kernel_rfl) (by kernel_rfl) (by kernel_rfl) (fun _ _ _ h => h) (Or.inl ⟨by rfl, ?y1⟩) (by assumption) ?r1
  case y1 => intro W hSw; (try dsimp only at hSw); go_simp; (try with_reducible rfl)
  (try dsimp only [Act.put, List.setIfInBounds_toArray, List.set_cons_zero, List.set_cons_succ])
  refine wpAnyH_take (i := 2) (oi := _) (v := ?v2) rfl (by kernel_rfl) (by kernel_rfl) (by kernel_rfl) (fun _ _ _ h => h) (Or.inl ⟨by rfl, ?y2⟩) (by assumption) ?r2
  case y2 => intro W hSw; (try dsimp only at hSw); go_simp; (try with_reducible rfl)
  (try dsimp only [Act.put, List.setIfInBounds_toArray, List.set_cons_zero, List.set_cons_succ])
  refine wpAnyH_take (i := 3) (oi := _) (v := ?v3) rfl (by kernel_rfl) (by kernel_rfl) (by kernel_rfl) (fun _ _ _ h => h) (Or.inl ⟨by rfl, ?y3⟩) (by assumption) ?r3
  case y3 => intro W hSw; (try dsimp only at hSw); go_simp; (try with_reducible rfl)
  (try dsimp only [Act.put, List.setIfInBounds_toArray, List.set_cons_zero, List.set_cons_succ])
  refine wpAnyH_take (i := 4) (oi := _) (v := ?v4) rfl (by kernel_rfl) (by kernel_rfl) (by kernel_rfl) (fun _ _ _ h => h) (Or.inl ⟨by rfl, ?y4⟩) (by assumption) ?r4
  case y4 => intro W hSw; (try dsimp only at hSw); go_simp; (try with_reducible rfl)
  (try dsimp only [Act.put, List.setIfInBounds_toArray, List.set_cons_zero, List.set_cons_succ])
  refine wpAnyH_take (i := 5) (oi := _) (v := ?v5) rfl (by kernel_rfl) (by kernel_rfl) (by kernel_rfl) (fun _ _ _ h => h) (Or.inl ⟨by rfl, ?y5⟩) (by assumption) ?r5
  case y5 => intro W hSw; (try dsimp only at hSw); go_simp; (try with_reducible rfl)
  (try dsimp only [Act.put, List.setIfInBounds_toArray, List.set_cons_zero, List.set_cons_succ])
  refine wpAnyH_take (i := 6) (oi := _) (v := ?v6) rfl (by kernel_rfl) (by kernel_rfl) (by kernel_rfl) (fun _ _ _ h => h) (Or.inl ⟨by rfl, ?y6⟩) (by assumption) ?r6
  case y6 => intro W hSw; (try dsimp only at hSw); go_simp; (try with_reducible rfl)
  (try dsimp only [Act.put, List.setIfInBounds_toArray, List.set_cons_zero, List.set_cons_succ])
  refine wpAnyH_take (i := 8) (oi := _) (v := ?v8) rfl (by kernel_rfl) (by kernel_rfl) (by kernel_rfl) (fun _ _ _ h => h) (Or.inl ⟨by rfl, ?y8⟩) (by assumption) ?r8
  case y8 => intro W hSw; (try dsimp only at hSw); go_simp; (try with_reducible rfl)
  (try dsimp only [Act.put, List.setIfInBounds_toArray, List.set_cons_zero, List.set_cons_succ])
  refine wpAnyH_take (i := 9) (oi := _) (v := ?v9) rfl (by kernel_rfl) (by kernel_rfl) (by kernel_rfl) (fun _ _ _ h => h) (Or.inl ⟨by rfl, ?y9⟩) (by assumption) ?r9
  case y9 => intro W hSw; (try dsimp only at hSw); go_simp; (try with_reducible rfl)
  (try dsimp only [Act.put, List.setIfInBounds_toArray, List.set_cons_zero, List.set_cons_succ])
  refine wpAnyH_take (i := 10) (oi := _) (v := ?v10) rfl (by kernel_rfl) (by kernel_rfl) (by kernel_rfl) (fun _ _ _ h => h) (Or.inl ⟨by rfl, ?y10⟩) (by assumption) ?r10
  case y10 => intro W hSw; (try dsimp only at hSw); go_simp; (try with_reducible rfl)
  (try dsimp only [Act.put, List.setIfInBounds_toArray, List.set_cons_zero, List.set_cons_succ])
  refine wpAnyH_take (i := 11) (oi := _) (v := ?v11) rfl (by kernel_rfl) (by kernel_rfl) (by kernel_rfl) (fun _ _ _ h => h) (Or.inl ⟨by rfl, ?y11⟩) (by assumption) ?r11
  case y11 => intro W hSw; (try dsimp only at hSw); go_simp; (try with_reducible rfl)
  (try dsimp only [Act.put, List.setIfInBounds_toArray, List.set_cons_zero, List.set_cons_succ])
  refine wpAnyH_take (i := 12) (oi := _) (v := ?v12) rfl (by kernel_rfl) (by kernel_rfl) (by kernel_rfl) (fun _ _ _ h => h) (Or.inl ⟨by rfl, ?y12⟩) (by assumption) ?r12
  case y12 => intro W hSw; (try dsimp only at hSw); go_simp; (try with_reducible rfl)
  (try dsimp only [Act.put, List.setIfInBounds_toArray, List.set_cons_zero, List.set_cons_succ])
  refine wpAnyH_take (i := 13) (oi := _) (v := ?v13) rfl (by kernel_rfl) (by kernel_rfl) (by kernel_rfl) (fun _ _ _ h => h) (Or.inl ⟨by rfl, ?y13⟩) (by assumption) ?r13
  case y13 => intro W hSw; (try dsimp only at hSw); go_simp; (try with_reducible rfl)
  (try dsimp only [Act.put, List.setIfInBounds_toArray, List.set_cons_zero, List.set_cons_succ])
  refine wpAnyH_ready (rs := [7]) (by kernel_rfl) (by simp) ?_
  refine AllReadyH.cons (o := _) rfl (fun K hK => ?_) ?_
  · go_simp
    go_at_call 56; refine (b1 _ _ _ _ (by assumption) _ (by assumption)).mono ?_; rintro e w3 ⟨rfl, rfl⟩
    refine hK.out _ _ ?_ (fun hHeld => ?_)
    · exact hHeld
    clear hK K
    (try dsimp only [Act.put, List.setIfInBounds_toArray, List.set_cons_zero, List.set_cons_succ])
    refine wpAnyH_ready (rs := [14]) (by kernel_rfl) (by simp) ?_
    refine AllReadyH.cons (o := _) rfl (fun K hK => ?_) ?_
    · go_simp
      go_at_call 56; refine (b1 _ _ _ _ (by assumption) _ (by assumption)).mono ?_; rintro e w3 ⟨rfl, rfl⟩
      refine hK.out _ _ ?_ (fun hHeld => ?_)
      · exact hHeld
      clear hK K
      (try dsimp only [Act.put, List.setIfInBounds_toArray, List.set_cons_zero, List.set_cons_succ])
      refine wpAnyH_take (i := 15) (oi := _) (v := ?v15) rfl (by kernel_rfl) (by kernel_rfl) (by kernel_rfl) (fun _ _ _ h => h) (Or.inl ⟨by rfl, ?y15⟩) (by assumption) ?r15
      case y15 => intro W hSw; (try dsimp only at hSw); go_simp; (try with_reducible rfl)
      (try dsimp only [Act.put, List.setIfInBounds_toArray, List.set_cons_zero, List.set_cons_succ])
      refine wpAnyH_ready (rs := [16]) (by kernel_rfl) (by simp) ?_
      refine AllReadyH.cons (o := _) rfl (fun K hK => ?_) ?_
      · go_simp
        go_at_call 55; refine (hp _).mono ?_; rintro e w3 ⟨rfl, hbw⟩
        refine hK.out _ _ ?_ (fun hHeld => ?_)
        · exact four_below (by assumption) hbw
        clear hK K
        (try dsimp only [Act.put, List.setIfInBounds_toArray, List.set_cons_zero, List.set_cons_succ])
        have HR := (hHeld : Four w x1 y1 x2 y2 x3 y3 k _)
        refine wpAnyH_ready (rs := [17]) (by kernel_rfl) (by simp) ?_
        refine AllReadyH.cons (o := _) rfl (fun K hK => ?_) ?_
        · go_simp
          refine hK.out _ _ ?_ (fun hHeld => ?_)
          · exact four_set (by assumption) _ _ _
          clear hK K
          (try dsimp only [Act.put, List.setIfInBounds_toArray, List.set_cons_zero, List.set_cons_succ])
          refine wpAnyH_ready (rs := [18]) (by kernel_rfl) (by simp) ?_
          refine AllReadyH.cons (o := _) rfl (fun K hK => ?_) ?_
          · go_simp
            refine hK.out _ _ ?_ (fun hHeld => ?_)
            · exact hHeld
            clear hK K
            (try dsimp only [Act.put, List.setIfInBounds_toArray, List.set_cons_zero, List.set_cons_succ])
            refine wpAnyH_done (by kernel_rfl) ?_ _
            refine NoPanic.normal ?_
            go_wp2
            exact rowtmp_res rfl HR.2.2.2.2.1 HR.2.2.2.2.2.1 (by omega) _ _ _ _ _ _ _ _ rfl rfl fun _ h => ⟨rfl, h⟩
          exact AllReadyH.nil
        exact AllReadyH.nil
      exact AllReadyH.nil
    exact AllReadyH.nil
  exact AllReadyH.nil
end Go.Proofs.Ytbgllbjkmjlipaa
