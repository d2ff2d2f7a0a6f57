/- The walk of NavTurns. -/
import Derived.Test.YtbgllbjkmjlipaaW11
namespace Go.Proofs.Ytbgllbjkmjlipaa
open Go.RowKit Go.Shelf
attribute [local go_sem] fmt64
attribute [local go_sem ↓] st24
attribute [local go_sem] st24_run rr24 setRow_alloc3

theorem own_pts {W : World} {base g n cap : Nat} {f : Nat → Int × Int} (hr : W.ownsRow base 31 1 (.slice (some ⟨g, 0, none⟩) n cap) n ((listOf f n).map gval)) (hf : ∀ k, k < n → (f k).1.natAbs < 1048576 ∧ (f k).2.natAbs < 1048576) {j : Nat} (hj : j < n) :
    W.cell? ⟨g, j, none⟩ = some (cx (wd false (f j).1) (wd false (f j).2)) := by
  obtain ⟨g', cap', e, _, _, hc⟩ := own_cells hr (by omega)
  cases e
  refine hc j _ ?_
  rw [← gval_gpz (hf j hj)]
  simp [listOf, hj]
theorem turn_word (p : Int × Int) (h : p.1.natAbs < 1048576 ∧ p.2.natAbs < 1048576) : ∃ s t : Bool, ∀ w, (binOp .mul 31 (.complex .f64 (wd false p.1) (wd false p.2)) (.complex .f64 0 4607182418800017408)).run Try.prog w = .ok (cx (wd s (-p.2)) (wd t p.1)) w := by
  obtain ⟨s, t, hm⟩ := cMul_wd false false false false p.1 p.2 0 1 (by omega) (by omega) (by decide) (by decide)
  rw [lit0, lit1, show p.1 * 0 - p.2 * 1 = -p.2 by omega, show p.1 * 1 + p.2 * 0 = p.1 by omega] at hm
  exact ⟨s, t, fun w => run_complex_mul w 31 _ _ _ _ _ _ hm⟩
theorem gval0 : gval gp0 = cx 0 0 := by show cx (wd false 0) (wd false 0) = cx 0 0; rw [lit0]

set_option maxRecDepth 100000 in
set_option maxHeartbeats 8000000 in
theorem navTurns_walk (A : Option Addr) (n cap : Nat) (ns : List N3) (re im kd fr rb ib kb : Int) (w : World) (hN : Nbs w w.heap.size A n ns) :
    Calls Try.prog 6 #[.slice A n cap, nb re im kd, .agg #[.int .i64 fr, .int .i64 rb, .int .i64 ib, .int .i64 kb]] w fun e w' => e = .returned (.bool true) ∧ Below w.heap.size w w' := by
  have hv := value_any re im kd
  have hvb := value_any rb ib kb
  generalize plR re im kd = a at *
  generalize plI re im kd = b at *
  generalize plR rb ib kb = c at *
  generalize plI rb ib kb = d at *
  have LL0 : Hid (LW w 0 [(w.heap.size + 1 + 1, 24, #[.int .i64 rb, .int .i64 ib, .int .i64 kb]), (w.heap.size, 24, #[.int .i64 re, .int .i64 im, .int .i64 kd])] (((w.alloc (.cells #[.int .i64 re, .int .i64 im, .int .i64 kd] 24)).alloc (.cells #[.int .i64 fr, .int .i64 rb, .int .i64 ib, .int .i64 kb] 62)).alloc (.cells #[.int .i64 rb, .int .i64 ib, .int .i64 kb] 24))) := by
    have h := (((LW.nil w).new 24 #[.int .i64 re, .int .i64 im, .int .i64 kd]).alloc (.cells #[.int .i64 fr, .int .i64 rb, .int .i64 ib, .int .i64 kb] 62)).new 24 #[.int .i64 rb, .int .i64 ib, .int .i64 kb]
    simp only [World.size_alloc] at h
    exact h
  by_cases h60 : 60 < n
  · have d0 : decide ((60 : Int) < (n : Int)) = true := by simp; omega
    clear hN
    go_enter Try.func6, Try.ntmps6
    go_wp2_with fail
    refine (awake_any _).mono ?_
    rintro e wz ⟨rfl, hb⟩
    have Lz := LL0.out.bel hb
    go_wp2
    go_ret
    exact ⟨rfl, Lz.below⟩
  have hn : n ≤ 60 := by omega
  have d0 : decide ((60 : Int) < (n : Int)) = false := by simp; omega
  clear h60
  have hpt := points_any A n cap ns (by omega) _ ((hN.below LL0.out.below).more LL0.out.below.size)
  clear hN
  obtain ⟨i0, hi, hz0, hz1, hz2⟩ := info_parts Try.info31
  go_enter Try.func6, Try.ntmps6
  go_wp2_with fail
  refine hpt.mono ?_
  rintro e w1 ⟨v9, xs, rfl, hxl, hNA, hRow, hb⟩
  have L1 := Lib.hid (LL0.out.bel hb)
  obtain ⟨A9, c9, rfl⟩ := own_slice hRow
  clear LL0 hb hpt
  have f0 := L1.out.cell (i := 0) (v := .int .i64 re) (List.mem_cons_of_mem _ (List.mem_cons_self ..)) rfl
  have f1 := L1.out.cell (i := 1) (v := .int .i64 im) (List.mem_cons_of_mem _ (List.mem_cons_self ..)) rfl
  have f2 := L1.out.cell (i := 2) (v := .int .i64 kd) (List.mem_cons_of_mem _ (List.mem_cons_self ..)) rfl
  go_wp2_with fail
  refine (hv _).mono ?_
  rintro e w2 ⟨x2, y2, rfl, hN2, hb⟩
  have Lw2 := Lib.hid (L1.out.bel hb)
  have hRow2 := ownsRow_bel hRow hb
  clear hb L1 f0 f1 f2
  have hfg := fence_gen (a := a) (b := b) (by omega) hxl hNA hRow2 hN2
  obtain ⟨al, hal⟩ : ∃ x, (rAll ns n && rightB a b) = x := ⟨_, rfl⟩
  rw [hal] at hfg
  go_wp2_with fail
  refine (hfg).mono ?_
  rintro e w3 ⟨rfl, hb⟩
  have Lw3 := Lib.hid (Lw2.out.bel hb)
  have hRow3 := ownsRow_bel hRow2 hb
  clear hb Lw2 
  clear hfg hRow hRow2
  by_cases h3 : n < 3
  · rw [show feE n al = 1 from if_pos h3, show feR n al (fenR ns n a b) = false from if_pos h3]
    go_wp2_with fail
    refine (awake_any _).mono ?_
    rintro e wz ⟨rfl, hb⟩
    have Lwz := Lib.hid (Lw3.out.bel hb)
    clear hb Lw3 
    go_wp2
    go_ret
    exact ⟨rfl, Lwz.out.below⟩
  cases al with
  | false =>
    rw [show feE n false = 10 by unfold feE; rw [if_neg h3]; rfl, show feR n false (fenR ns n a b) = false by unfold feR; rw [if_neg h3]; rfl]
    go_wp2_with fail
    refine (awake_any _).mono ?_
    rintro e wz ⟨rfl, hb⟩
    have Lwz := Lib.hid (Lw3.out.bel hb)
    clear hb Lw3 
    go_wp2
    go_ret
    exact ⟨rfl, Lwz.out.below⟩
  | true =>
    rw [show feE n true = 0 by unfold feE; rw [if_neg h3]; rfl, show feR n true (fenR ns n a b) = fenR ns n a b by unfold feR; rw [if_neg h3]; rfl]
    rw [Bool.and_eq_true] at hal
    obtain ⟨hra, hrz⟩ := hal
    obtain ⟨m, rfl⟩ : ∃ m, n = m + 1 := ⟨n - 1, by omega⟩
    have hfb : ∀ k, k < m + 1 → (fzs ns k).1.natAbs < 1048576 ∧ (fzs ns k).2.natAbs < 1048576 := fun k hk => right_bd (rAll_at hra hk)
    have hxs : xs.map cxv = (listOf (fzs ns) (m + 1)).map gval := by
      apply List.ext_getElem?
      intro j
      by_cases hj : j < m + 1
      · obtain ⟨e1, e2⟩ := num_right (hNA j hj) (rAll_at hra hj)
        have hp : pat xs j = xs[j]'(by omega) := by simp [pat, List.getElem?_eq_getElem (show j < xs.length by omega)]
        rw [hp] at e1 e2
        have he : cxv (xs[j]'(by omega)) = gval (gpz (fzs ns j)) := by rw [gval_gpz (hfb j hj)]; unfold cxv; rw [e1, e2]; rfl
        simp [listOf, hj, List.getElem?_eq_getElem (show j < xs.length by omega), he]
      · rw [List.getElem?_eq_none (by simp; omega), List.getElem?_eq_none (by simp [listOf]; omega)]
    rw [hxs] at hRow3
    clear hxs hNA hxl
    obtain ⟨g9, cap9, hv9, hg9b, _, _⟩ := own_cells hRow3 (by omega)
    cases hv9
    have hfF : fenR ns (m + 1) a b = fenF (fzs ns) (m + 1) a b := rfl
    rw [hfF]
    clear hfF
    have hzb := right_bd hrz
    generalize fzs ns = f at *
    obtain ⟨t_, s, ht1, ht2, ht3, ht4, ht5, hs⟩ := from_fact fr m (by omega)
    have HR9 := Lib.hid hRow3
    have HFB := Lib.hid hfb
    clear hRow3 hra hfb
    obtain ⟨IN, hIN⟩ : ∃ x, fenF f (m + 1) a b = x := ⟨_, rfl⟩
    rw [hIN]
    have L4 := Lib.hid ((((Lw3.out.alloc (.cells #[] 31)).alloc (.cells #[] 31)).alloc (.cells #[] 31)).alloc (.cells #[] 31))
    have O4 := Lib.hid (Own4.new w3)
    have B4 := Lib.hid ((bt_alloc (bt_alloc (bt_alloc (bt_alloc (Below.refl w3.heap.size w3) (.cells #[] 31)) (.cells #[] 31)) (.cells #[] 31)) (.cells #[] 31)))
    have L3 := Lw3
    clear Lw3
    have f0 := L4.out.cell (i := 0) (v := .int .i64 rb) (List.mem_cons_self ..) rfl
    have f1 := L4.out.cell (i := 1) (v := .int .i64 ib) (List.mem_cons_self ..) rfl
    have f2 := L4.out.cell (i := 2) (v := .int .i64 kb) (List.mem_cons_self ..) rfl
    go_wp2_with fail
    refine (hvb _).mono ?_
    rintro e w4 ⟨x7, y7, rfl, hN7, hb⟩
    have Lw4 := Lib.hid (L4.out.bel hb)
    have O5 := Lib.hid (O4.out.bel hb)
    have B5 := Lib.hid (bt B4.out hb)
    clear hb L4 f0 f1 f2
    have hmy := may_any x7 y7
    rw [num_may hN7] at hmy
    obtain ⟨wh, hwh⟩ : ∃ x, rightB c d = x := ⟨_, rfl⟩
    rw [hwh] at hmy
    clear O4 B4
    go_wp2_with fail
    refine (hmy _).mono ?_
    rintro e w5 ⟨rfl, hb⟩
    have Lw5 := Lib.hid (Lw4.out.bel hb)
    have O6 := Lib.hid (O5.out.bel hb)
    have B6 := Lib.hid (bt B5.out hb)
    clear hb Lw4 
    clear hmy O5 B5
    have HWH := Lib.hid hwh
    clear hwh
    have HC : Hid (∀ W j, Below w3.heap.size w3 W → j < m + 1 → W.cell? ⟨g9, j, none⟩ = some (cx (wd false (f j).1) (wd false (f j).2))) := Lib.hid fun W j hb hj => own_pts (ownsRow_bel HR9.out hb) HFB.out hj
    go_wp2
    go_loopw [13, 14, 15, 16, 17, 18] (fun va vb vc vd whv i wr => ∃ (k : Nat) (whb : Bool) (lc ld : List GP), k ≤ m + 1 ∧ i = .int .i64 k ∧ whv = .bool whb ∧ lc.length ≤ k ∧ Hid (Own4 w3.heap.size wr va vb vc vd ((listOf (fun j => f ((j + s) % (m + 1))) k).map gval) ((listOf (fun j => f (m - j)) k).map gval) (lc.map gval) (ld.map gval)) ∧ Hid (Are ld k (fun j => (-(f j).2, (f j).1))) ∧ Hid (whb = true → rightB c d = true ∧ Are lc k (fun j => ((f j).1 + c, (f j).2 + d))) ∧ Hid (Below w3.heap.size w3 wr)) (fun _ _ _ _ _ i _ => m + 1 - (intOf i).toNat)
    case atStart => exact ⟨0, wh, [], [], by omega, rfl, rfl, by simp, O6, Lib.hid (are_nil _), Lib.hid (fun h => ⟨HWH.out.trans h, are_nil _⟩), B6⟩
    case round =>
      clear O6 B6
      obtain ⟨k, whb, lc, ld, hk, rfl, rfl, hlc, HO, HD, HM, HB⟩ := hrel
      by_cases hlt : k < m + 1
      · obtain ⟨q1, q2⟩ := index_fact k s m (by omega) hlt hs
        have hp1 : (k + s) % (m + 1) < m + 1 := Nat.mod_lt _ (by omega)
        have q3 : IntKind.i64.wrap ((m : Int) - (k : Int)) = ((m - k : Nat) : Int) := by rw [wr6 (by omega)]; omega
        have HLa : Hid ((listOf (fun j => f ((j + s) % (m + 1))) (k + 1)).map gval = (listOf (fun j => f ((j + s) % (m + 1))) k).map gval ++ [cx (wd false (f ((k + s) % (m + 1))).1) (wd false (f ((k + s) % (m + 1))).2)]) := Lib.hid (by rw [listOf_succ, List.map_append, List.map_cons, List.map_nil, gval_gpz (HFB.out _ hp1)])
        have HLb : Hid ((listOf (fun j => f (m - j)) (k + 1)).map gval = (listOf (fun j => f (m - j)) k).map gval ++ [cx (wd false (f (m - k)).1) (wd false (f (m - k)).2)]) := Lib.hid (by rw [listOf_succ, List.map_append, List.map_cons, List.map_nil, gval_gpz (HFB.out _ (by omega))])
        obtain ⟨q, hq1, hq2, hqm⟩ := turn_fact (f k) (HFB.out k hlt)
        have HDn := Lib.hid (are_snoc HD.out hq1 hq2)
        have HDl : Hid (ld.map gval ++ [cx (gx q) (gy q)] = (ld ++ [q]).map gval) := Lib.hid (map_snoc (zs := ld) (p := q))
        have hqm2 : ∀ w, (binOp .mul 31 (.complex .f64 (wd false (f k).1) (wd false (f k).2)) (.complex .f64 0 4607182418800017408)).run Try.prog w = .ok (.complex .f64 (gx q) (gy q)) w := hqm
        clear hqm
        have hla : ((listOf (fun j => f ((j + s) % (m + 1))) k).map gval).length = k := by simp [listOf]
        have hlb : ((listOf (fun j => f (m - j)) k).map gval).length = k := by simp [listOf]
        have hlc2 : (lc.map gval).length ≤ k := by simpa using hlc
        have hld : (ld.map gval).length = k := by rw [List.length_map]; exact HD.out.1
        have hpk : m - k < m + 1 := by omega
        have HAT := Lib.hid (fenF_at f (m + 1) k hlt)
        have hfk := HFB.out k hlt
        have HFK := Lib.hid hfk
        have cA := HC.out wr _ HB.out hp1
        have hszw := HB.out.size
        generalize hPA : (listOf (fun j => f ((j + s) % (m + 1))) k).map gval = LA at *
        generalize hPB : (listOf (fun j => f (m - j)) k).map gval = LB at *
        generalize hPC : lc.map gval = LC at *
        generalize hPD : ld.map gval = LDD at *
        have HPC := Lib.hid hPC
        clear hPA hPB hPC hPD hq1 hq2 HD
        generalize (k + s) % (m + 1) = p1 at *
        generalize m - k = p2 at *
        have i1 : (0 : Int) ≤ (p1 : Int) := by omega
        have i2 : (p1 : Int) < (m : Int) + 1 := by omega
        have i3 : (0 : Int) ≤ (p2 : Int) := by omega
        have i4 : (p2 : Int) < (m : Int) + 1 := by omega
        have i5 : (0 : Int) ≤ (k : Int) := by omega
        have i6 : (k : Int) < (m : Int) + 1 := by omega
        clear hfk
        cases whb with
        | false =>
          go_wp2_with (first | (at_builtin; (refine wpList_append_own_at _ rfl _ _ 29 rfl w3.heap.size 31 i0 _ 1 16 Try.underlying29 hi hz0 hz1 hz2 rfl (by decide) _ _ _ rfl (HO.out.oa.alloc _) ⟨wr.heap.size, 0, none⟩ 1 1 [cx (wd false (f p1).1) (wd false (f p1).2)] rfl rfl (News1 wr _ _) (by simp [Value.oneCell']) (by unfold maxLen; omega) (by omega) (by rw [World.size_alloc]; have := HB.out.size; omega) ?_); intro va2 wA hown hgrow _ hor; have HOA := Lib.hid (own4_appa HO.out hown hgrow hor); have HBA := Lib.hid (below_append HB.out HB.out.size HO.out.oa hgrow); clear hown hgrow hor; have cB := HC.out wA p2 HBA.out hpk) | (at_builtin; (refine wpList_append_own_at _ rfl _ _ 29 rfl w3.heap.size 31 i0 _ 1 16 Try.underlying29 hi hz0 hz1 hz2 rfl (by decide) _ _ _ rfl (HOA.out.ob.alloc _) ⟨wA.heap.size, 0, none⟩ 1 1 [cx (wd false (f p2).1) (wd false (f p2).2)] rfl rfl (News1 wA _ _) (by simp [Value.oneCell']) (by unfold maxLen; omega) (by omega) (by rw [World.size_alloc]; have := HBA.out.size; omega) ?_); intro vb2 wB hown hgrow _ hor; have HOB := Lib.hid (own4_appb HOA.out hown hgrow hor); have HBB := Lib.hid (below_append HBA.out HBA.out.size HOA.out.ob hgrow); clear hown hgrow hor; have cC := HC.out wB k HBB.out hlt) | (at_builtin; (refine wpList_append_own_at _ rfl _ _ 29 rfl w3.heap.size 31 i0 _ 1 16 Try.underlying29 hi hz0 hz1 hz2 rfl (by decide) _ _ _ rfl (HOB.out.od.alloc _) ⟨wB.heap.size, 0, none⟩ 1 1 [cx (gx q) (gy q)] rfl rfl (News1 wB _ _) (by simp [Value.oneCell']) (by unfold maxLen; omega) (by omega) (by rw [World.size_alloc]; have := HBB.out.size; omega) ?_); intro vd2 wD hown hgrow _ hor; have HOD := Lib.hid (own4_appd HOB.out hown hgrow hor); have HBD := Lib.hid (below_append HBB.out HBB.out.size HOB.out.od hgrow); clear hown hgrow hor; have cD := HC.out wD k HBD.out hlt))
          clear cA cB cC HO HOA HOB HB HBA HBB
          have hfo := fence_own (by omega) (by omega) (listOf_are HFB.out) (ownsRow_bel HR9.out HBD.out) false false (f k).1 (f k).2 HFK.out
          rw [HAT.out] at hfo
          go_wp2_with fail
          refine hfo.mono ?_
          rintro e wE ⟨rfl, hb⟩
          have HOE := Lib.hid (HOD.out.bel hb)
          have HBE := Lib.hid (bt HBD.out hb)
          clear hb HOD HBD hfo cD
          go_wp2
          go_roundw
          case rel => exact ⟨k + 1, false, lc, ld ++ [q], by omega, by go_num, rfl, by omega, Lib.hid (by rw [HLa.out, HLb.out, HPC.out, ← HDl.out]; exact HOE.out), HDn, Lib.hid (fun h => by cases h), HBE⟩
          case measure => simp [intOf]; omega
        | true =>
          go_wp2_with (first | (at_builtin; (refine wpList_append_own_at _ rfl _ _ 29 rfl w3.heap.size 31 i0 _ 1 16 Try.underlying29 hi hz0 hz1 hz2 rfl (by decide) _ _ _ rfl (HO.out.oa.alloc _) ⟨wr.heap.size, 0, none⟩ 1 1 [cx (wd false (f p1).1) (wd false (f p1).2)] rfl rfl (News1 wr _ _) (by simp [Value.oneCell']) (by unfold maxLen; omega) (by omega) (by rw [World.size_alloc]; have := HB.out.size; omega) ?_); intro va2 wA hown hgrow _ hor; have HOA := Lib.hid (own4_appa HO.out hown hgrow hor); have HBA := Lib.hid (below_append HB.out HB.out.size HO.out.oa hgrow); clear hown hgrow hor; have cB := HC.out wA p2 HBA.out hpk) | (at_builtin; (refine wpList_append_own_at _ rfl _ _ 29 rfl w3.heap.size 31 i0 _ 1 16 Try.underlying29 hi hz0 hz1 hz2 rfl (by decide) _ _ _ rfl (HOA.out.ob.alloc _) ⟨wA.heap.size, 0, none⟩ 1 1 [cx (wd false (f p2).1) (wd false (f p2).2)] rfl rfl (News1 wA _ _) (by simp [Value.oneCell']) (by unfold maxLen; omega) (by omega) (by rw [World.size_alloc]; have := HBA.out.size; omega) ?_); intro vb2 wB hown hgrow _ hor; have HOB := Lib.hid (own4_appb HOA.out hown hgrow hor); have HBB := Lib.hid (below_append HBA.out HBA.out.size HOA.out.ob hgrow); clear hown hgrow hor; have cC := HC.out wB k HBB.out hlt) | (at_builtin; (refine wpList_append_own_at _ rfl _ _ 29 rfl w3.heap.size 31 i0 _ 1 16 Try.underlying29 hi hz0 hz1 hz2 rfl (by decide) _ _ _ rfl (HOB.out.od.alloc _) ⟨wB.heap.size, 0, none⟩ 1 1 [cx (gx q) (gy q)] rfl rfl (News1 wB _ _) (by simp [Value.oneCell']) (by unfold maxLen; omega) (by omega) (by rw [World.size_alloc]; have := HBB.out.size; omega) ?_); intro vd2 wD hown hgrow _ hor; have HOD := Lib.hid (own4_appd HOB.out hown hgrow hor); have HBD := Lib.hid (below_append HBB.out HBB.out.size HOB.out.od hgrow); clear hown hgrow hor; have cD := HC.out wD k HBD.out hlt))
          clear cA cB cC HO HOA HOB HB HBA HBB
          obtain ⟨hrcd, hac⟩ := HM.out (by first | rfl | trivial)
          have hrk : rightB (f k).1 (f k).2 = true := decide_eq_true (by have := HFK.out; omega)
          have hvb2 : ∀ W, Calls Try.prog 14 #[.agg #[.int .i64 rb, .int .i64 ib, .int .i64 kb]] W fun e w' => e = .returned (cx (wd false c) (wd false d)) ∧ Below W.heap.size W w' := fun W => (hvb W).mono (by rintro e w' ⟨x, y, rfl, hN, hb⟩; obtain ⟨rfl, rfl⟩ := num_right hN hrcd; exact ⟨rfl, hb⟩)
          have hga := gadd_ok false false false false (f k).1 (f k).2 c d hrk hrcd
          have LD := Lib.hid (L3.out.bel HBD.out)
          clear HM hrk
          obtain ⟨r2, hr2⟩ : ∃ x, rightB ((f k).1 + c) ((f k).2 + d) = x := ⟨_, rfl⟩
          have HR2 := Lib.hid hr2
          unfold toldV at hga
          rw [hr2] at hga
          clear hr2
          cases r2 with
          | false =>
            have hga2 : ∀ W, Calls Try.prog 31 #[cx (wd false (f k).1) (wd false (f k).2), cx (wd false c) (wd false d)] W fun e w' => e = .returned (.tuple #[cx 0 0, .int .i64 10]) ∧ Below W.heap.size W w' := hga
            clear hga
            have sv : Hid (∀ W, Below wD.heap.size wD W → Below wD.heap.size wD W ∧ W.cell? ⟨g9, k, none⟩ = some (cx (wd false (f k).1) (wd false (f k).2)) ∧ W.cell? ⟨w.heap.size + 1 + 1, 0, none⟩ = some (.int .i64 rb) ∧ W.cell? ⟨w.heap.size + 1 + 1, 1, none⟩ = some (.int .i64 ib) ∧ W.cell? ⟨w.heap.size + 1 + 1, 2, none⟩ = some (.int .i64 kb)) := Lib.hid fun W hb => by
              have LL := LD.out.bel hb
              exact ⟨hb, HC.out W k (bt HBD.out hb) hlt, LL.cell (i := 0) (v := .int .i64 rb) (List.mem_cons_self ..) rfl, LL.cell (i := 1) (v := .int .i64 ib) (List.mem_cons_self ..) rfl, LL.cell (i := 2) (v := .int .i64 kb) (List.mem_cons_self ..) rfl⟩
            have BK0 := (Below.refl wD.heap.size wD).drew
            clear cD
            go_region_held3 (fun W => Below wD.heap.size wD W ∧ W.cell? ⟨g9, k, none⟩ = some (cx (wd false (f k).1) (wd false (f k).2)) ∧ W.cell? ⟨w.heap.size + 1 + 1, 0, none⟩ = some (.int .i64 rb) ∧ W.cell? ⟨w.heap.size + 1 + 1, 1, none⟩ = some (.int .i64 ib) ∧ W.cell? ⟨w.heap.size + 1 + 1, 2, none⟩ = some (.int .i64 kb))
              (first | (with_reducible exact sv.out _ BK0) | (with_reducible assumption) | (with_reducible exact sv.out _ (bt (And.left (by assumption)) hbw)))
              (first | (go_at_call 14; refine (hvb2 _).mono ?_; rintro e w_ ⟨rfl, hbw⟩) | (go_at_call 31; refine (hga2 _).mono ?_; rintro e w_ ⟨rfl, hbw⟩))
            rename_i hK
            have HOE := Lib.hid (HOD.out.bel hK.1)
            have HBE := Lib.hid (bt HBD.out hK.1)
            clear hK sv BK0 hvb2 hga2 LD
            go_wp2_with (at_builtin; (refine wpList_append_own_at _ rfl _ _ 29 rfl w3.heap.size 31 i0 _ 1 16 Try.underlying29 hi hz0 hz1 hz2 rfl (by decide) _ _ _ rfl (HOE.out.oc.alloc _) ⟨w_.heap.size, 0, none⟩ 1 1 [cx 0 0] rfl rfl (News1 w_ _ _) (by simp [Value.oneCell']) (by unfold maxLen; omega) (by omega) (by rw [World.size_alloc]; have := HBE.out.size; omega) ?_); intro vc2 wE hown hgrow _ hor; have HOF := Lib.hid (own4_appc HOE.out hown hgrow hor); have HBF := Lib.hid (below_append HBE.out HBE.out.size HOE.out.oc hgrow); clear hown hgrow hor; have cE := HC.out wE k HBF.out hlt)
            have hfo := fence_own (by omega) (by omega) (listOf_are HFB.out) (ownsRow_bel HR9.out HBF.out) false false (f k).1 (f k).2 HFK.out
            rw [HAT.out] at hfo
            go_wp2_with fail
            refine hfo.mono ?_
            rintro e wF ⟨rfl, hb⟩
            have HOG := Lib.hid (HOF.out.bel hb)
            have HBG := Lib.hid (bt HBF.out hb)
            clear hb HOE HOF HOD hfo HBD HBE HBF cE
            have hpg := gval0
            go_wp2
            go_roundw
            case rel => exact ⟨k + 1, false, lc ++ [gp0], ld ++ [q], by omega, by go_num, rfl, by simp; omega, Lib.hid (by rw [HLa.out, HLb.out, ← HDl.out, List.map_append, List.map_cons, List.map_nil, HPC.out, hpg]; exact HOG.out), HDn, Lib.hid (fun h => by cases h), HBG⟩
            case measure => simp [intOf]; omega
          | true =>
            have hga2 : ∀ W, Calls Try.prog 31 #[cx (wd false (f k).1) (wd false (f k).2), cx (wd false c) (wd false d)] W fun e w' => e = .returned (.tuple #[cx (wd false ((f k).1 + c)) (wd false ((f k).2 + d)), .int .i64 0]) ∧ Below W.heap.size W w' := hga
            clear hga
            have sv : Hid (∀ W, Below wD.heap.size wD W → Below wD.heap.size wD W ∧ W.cell? ⟨g9, k, none⟩ = some (cx (wd false (f k).1) (wd false (f k).2)) ∧ W.cell? ⟨w.heap.size + 1 + 1, 0, none⟩ = some (.int .i64 rb) ∧ W.cell? ⟨w.heap.size + 1 + 1, 1, none⟩ = some (.int .i64 ib) ∧ W.cell? ⟨w.heap.size + 1 + 1, 2, none⟩ = some (.int .i64 kb)) := Lib.hid fun W hb => by
              have LL := LD.out.bel hb
              exact ⟨hb, HC.out W k (bt HBD.out hb) hlt, LL.cell (i := 0) (v := .int .i64 rb) (List.mem_cons_self ..) rfl, LL.cell (i := 1) (v := .int .i64 ib) (List.mem_cons_self ..) rfl, LL.cell (i := 2) (v := .int .i64 kb) (List.mem_cons_self ..) rfl⟩
            have BK0 := (Below.refl wD.heap.size wD).drew
            clear cD
            go_region_held3 (fun W => Below wD.heap.size wD W ∧ W.cell? ⟨g9, k, none⟩ = some (cx (wd false (f k).1) (wd false (f k).2)) ∧ W.cell? ⟨w.heap.size + 1 + 1, 0, none⟩ = some (.int .i64 rb) ∧ W.cell? ⟨w.heap.size + 1 + 1, 1, none⟩ = some (.int .i64 ib) ∧ W.cell? ⟨w.heap.size + 1 + 1, 2, none⟩ = some (.int .i64 kb))
              (first | (with_reducible exact sv.out _ BK0) | (with_reducible assumption) | (with_reducible exact sv.out _ (bt (And.left (by assumption)) hbw)))
              (first | (go_at_call 14; refine (hvb2 _).mono ?_; rintro e w_ ⟨rfl, hbw⟩) | (go_at_call 31; refine (hga2 _).mono ?_; rintro e w_ ⟨rfl, hbw⟩))
            rename_i hK
            have HOE := Lib.hid (HOD.out.bel hK.1)
            have HBE := Lib.hid (bt HBD.out hK.1)
            clear hK sv BK0 hvb2 hga2 LD
            go_wp2_with (at_builtin; (refine wpList_append_own_at _ rfl _ _ 29 rfl w3.heap.size 31 i0 _ 1 16 Try.underlying29 hi hz0 hz1 hz2 rfl (by decide) _ _ _ rfl (HOE.out.oc.alloc _) ⟨w_.heap.size, 0, none⟩ 1 1 [cx (wd false ((f k).1 + c)) (wd false ((f k).2 + d))] rfl rfl (News1 w_ _ _) (by simp [Value.oneCell']) (by unfold maxLen; omega) (by omega) (by rw [World.size_alloc]; have := HBE.out.size; omega) ?_); intro vc2 wE hown hgrow _ hor; have HOF := Lib.hid (own4_appc HOE.out hown hgrow hor); have HBF := Lib.hid (below_append HBE.out HBE.out.size HOE.out.oc hgrow); clear hown hgrow hor; have cE := HC.out wE k HBF.out hlt)
            have hfo := fence_own (by omega) (by omega) (listOf_are HFB.out) (ownsRow_bel HR9.out HBF.out) false false (f k).1 (f k).2 HFK.out
            rw [HAT.out] at hfo
            go_wp2_with fail
            refine hfo.mono ?_
            rintro e wF ⟨rfl, hb⟩
            have HOG := Lib.hid (HOF.out.bel hb)
            have HBG := Lib.hid (bt HBF.out hb)
            clear hb HOE HOF HOD hfo HBD HBE HBF cE
            have hbs := right_bd HR2.out
            have hpg : gval (gpz ((f k).1 + c, (f k).2 + d)) = cx (wd false ((f k).1 + c)) (wd false ((f k).2 + d)) := gval_gpz hbs
            have hac2 := are_snoc (p := gpz ((f k).1 + c, (f k).2 + d)) hac (by rw [gpz_at hbs]) (by rw [gpz_at hbs])
            clear hbs
            go_wp2
            go_roundw
            case rel => exact ⟨k + 1, true, lc ++ [gpz ((f k).1 + c, (f k).2 + d)], ld ++ [q], by omega, by go_num, rfl, by simp; omega, Lib.hid (by rw [HLa.out, HLb.out, ← HDl.out, List.map_append, List.map_cons, List.map_nil, HPC.out, hpg]; exact HOG.out), HDn, Lib.hid (fun _ => ⟨hrcd, hac2⟩), HBG⟩
            case measure => simp [intOf]; omega
      · obtain rfl : k = m + 1 := by omega
        clear hlt hk
        have LR := Lib.hid (L3.out.bel HB.out)
        have hv2 : ∀ W, Calls Try.prog 14 #[.agg #[.int .i64 re, .int .i64 im, .int .i64 kd]] W fun e w' => e = .returned (cx (wd false a) (wd false b)) ∧ Below W.heap.size W w' := fun W => (hv W).mono (by rintro e w' ⟨x, y, rfl, hN, hb⟩; obtain ⟨rfl, rfl⟩ := num_right hN hrz; exact ⟨rfl, hb⟩)
        have HZB := Lib.hid hzb
        have HIN := Lib.hid hIN
        have HRZ := Lib.hid hrz
        obtain ⟨s1, s2, ht⟩ := turn_word (a, b) hzb
        clear hzb hIN hrz L3
        have htm : ∀ w, (binOp .mul 31 (.complex .f64 (wd false a) (wd false b)) (.complex .f64 0 4607182418800017408)).run Try.prog w = .ok (.complex .f64 (wd s1 (-b)) (wd s2 a)) w := ht
        clear ht
        have f0 := LR.out.cell (i := 0) (v := .int .i64 re) (List.mem_cons_of_mem _ (List.mem_cons_self ..)) rfl
        have f1 := LR.out.cell (i := 1) (v := .int .i64 im) (List.mem_cons_of_mem _ (List.mem_cons_self ..)) rfl
        have f2 := LR.out.cell (i := 2) (v := .int .i64 kd) (List.mem_cons_of_mem _ (List.mem_cons_self ..)) rfl
        go_wp2_with fail
        refine (hv2 _).mono ?_
        rintro e w6 ⟨rfl, hb⟩
        have Lw6 := Lib.hid (LR.out.bel hb)
        have O7 := Lib.hid (HO.out.bel hb)
        clear HO
        clear hb LR f0 f1 f2
        have hfa := fence_own (by omega) (by omega) (listOf_are (g := (fun j => f ((j + s) % (m + 1)))) (n := m + 1) (fun k hk => HFB.out _ (Nat.mod_lt _ (by omega)))) (by have h := O7.out.oa; rwa [List.length_map, listOf_len] at h) false false a b HZB.out
        rw [fenF_rot, HIN.out] at hfa
        go_wp2_with fail
        refine (hfa).mono ?_
        rintro e w7 ⟨rfl, hb⟩
        have Lw7 := Lib.hid (Lw6.out.bel hb)
        have O8 := Lib.hid (O7.out.bel hb)
        clear O7 hfa
        clear hb Lw6 
        have f3 := Lw7.out.cell (i := 0) (v := .int .i64 re) (List.mem_cons_of_mem _ (List.mem_cons_self ..)) rfl
        have f4 := Lw7.out.cell (i := 1) (v := .int .i64 im) (List.mem_cons_of_mem _ (List.mem_cons_self ..)) rfl
        have f5 := Lw7.out.cell (i := 2) (v := .int .i64 kd) (List.mem_cons_of_mem _ (List.mem_cons_self ..)) rfl
        go_wp2_with fail
        refine (hv2 _).mono ?_
        rintro e w8 ⟨rfl, hb⟩
        have Lw8 := Lib.hid (Lw7.out.bel hb)
        have O9 := Lib.hid (O8.out.bel hb)
        clear O8
        clear hb Lw7 f3 f4 f5
        have hfa := fence_own (by omega) (by omega) (listOf_are (g := (fun j => f (m - j))) (n := m + 1) (fun k hk => HFB.out _ (by omega))) (by have h := O9.out.ob; rwa [List.length_map, listOf_len] at h) false false a b HZB.out
        rw [fenF_rev, HIN.out] at hfa
        go_wp2_with fail
        refine (hfa).mono ?_
        rintro e w9 ⟨rfl, hb⟩
        have Lw9 := Lib.hid (Lw8.out.bel hb)
        have O10 := Lib.hid (O9.out.bel hb)
        clear O9 hfa
        clear hb Lw8 
        cases IN with
        | false =>
          cases whb with
          | false =>
            have f0 := Lw9.out.cell (i := 0) (v := .int .i64 re) (List.mem_cons_of_mem _ (List.mem_cons_self ..)) rfl
            have f1 := Lw9.out.cell (i := 1) (v := .int .i64 im) (List.mem_cons_of_mem _ (List.mem_cons_self ..)) rfl
            have f2 := Lw9.out.cell (i := 2) (v := .int .i64 kd) (List.mem_cons_of_mem _ (List.mem_cons_self ..)) rfl
            go_wp2_with fail
            refine (hv2 _).mono ?_
            rintro e wx ⟨rfl, hb⟩
            have Lwx := Lib.hid (Lw9.out.bel hb)
            have Ox := Lib.hid (O10.out.bel hb)
            clear O10
            clear hb Lw9 f0 f1 f2
            have hfa := fence_own (by omega) (by omega) HD.out (by have h := Ox.out.od; rwa [List.length_map, HD.out.1] at h) s1 s2 (-b) a (by have := HZB.out; omega)
            rw [fenF_turn, HIN.out] at hfa
            go_wp2_with fail
            refine (hfa).mono ?_
            rintro e wy ⟨rfl, hb⟩
            have Lwy := Lib.hid (Lwx.out.bel hb)
            clear hb Lwx 
            go_wp2_with fail
            refine (awake_any _).mono ?_
            rintro e wz ⟨rfl, hb⟩
            have Lwz := Lib.hid (Lwy.out.bel hb)
            clear hb Lwy 
            go_wp2
            go_ret
            exact ⟨rfl, Lwz.out.below⟩
          | true =>
            obtain ⟨hrcd, hac⟩ := HM.out (by first | rfl | trivial)
            have hvb2 : ∀ W, Calls Try.prog 14 #[.agg #[.int .i64 rb, .int .i64 ib, .int .i64 kb]] W fun e w' => e = .returned (cx (wd false c) (wd false d)) ∧ Below W.heap.size W w' := fun W => (hvb W).mono (by rintro e w' ⟨x, y, rfl, hN, hb⟩; obtain ⟨rfl, rfl⟩ := num_right hN hrcd; exact ⟨rfl, hb⟩)
            have hga := gadd_ok false false false false a b c d HRZ.out hrcd
            clear HM hvb
            obtain ⟨r2, hr2⟩ : ∃ x, rightB (a + c) (b + d) = x := ⟨_, rfl⟩
            have HR2 := Lib.hid hr2
            unfold toldV at hga
            rw [hr2] at hga
            clear hr2
            go_wp2_with fail
            cases r2 with
            | false =>
              have hga2 : ∀ W, Calls Try.prog 31 #[cx (wd false a) (wd false b), cx (wd false c) (wd false d)] W fun e w' => e = .returned (.tuple #[cx 0 0, .int .i64 10]) ∧ Below W.heap.size W w' := hga
              clear hga
              have sv : Hid (∀ W, Below w9.heap.size w9 W → Below w9.heap.size w9 W ∧ W.cell? ⟨w.heap.size, 0, none⟩ = some (.int .i64 re) ∧ W.cell? ⟨w.heap.size, 1, none⟩ = some (.int .i64 im) ∧ W.cell? ⟨w.heap.size, 2, none⟩ = some (.int .i64 kd) ∧ W.cell? ⟨w.heap.size + 1 + 1, 0, none⟩ = some (.int .i64 rb) ∧ W.cell? ⟨w.heap.size + 1 + 1, 1, none⟩ = some (.int .i64 ib) ∧ W.cell? ⟨w.heap.size + 1 + 1, 2, none⟩ = some (.int .i64 kb)) := Lib.hid fun W hb => by
                have LL := Lw9.out.bel hb
                exact ⟨hb, LL.cell (i := 0) (v := .int .i64 re) (List.mem_cons_of_mem _ (List.mem_cons_self ..)) rfl, LL.cell (i := 1) (v := .int .i64 im) (List.mem_cons_of_mem _ (List.mem_cons_self ..)) rfl, LL.cell (i := 2) (v := .int .i64 kd) (List.mem_cons_of_mem _ (List.mem_cons_self ..)) rfl, LL.cell (i := 0) (v := .int .i64 rb) (List.mem_cons_self ..) rfl, LL.cell (i := 1) (v := .int .i64 ib) (List.mem_cons_self ..) rfl, LL.cell (i := 2) (v := .int .i64 kb) (List.mem_cons_self ..) rfl⟩
              have BK0 := (Below.refl w9.heap.size w9).drew
              go_region_held3 (fun W => Below w9.heap.size w9 W ∧ W.cell? ⟨w.heap.size, 0, none⟩ = some (.int .i64 re) ∧ W.cell? ⟨w.heap.size, 1, none⟩ = some (.int .i64 im) ∧ W.cell? ⟨w.heap.size, 2, none⟩ = some (.int .i64 kd) ∧ W.cell? ⟨w.heap.size + 1 + 1, 0, none⟩ = some (.int .i64 rb) ∧ W.cell? ⟨w.heap.size + 1 + 1, 1, none⟩ = some (.int .i64 ib) ∧ W.cell? ⟨w.heap.size + 1 + 1, 2, none⟩ = some (.int .i64 kb))
                (first | (with_reducible exact sv.out _ BK0) | (with_reducible assumption) | (with_reducible exact sv.out _ (bt (And.left (by assumption)) hbw)))
                (first | (go_at_call 14; (first | (with_reducible refine (hv2 _).mono ?_) | (with_reducible refine (hvb2 _).mono ?_)); rintro e w_ ⟨rfl, hbw⟩) | (go_at_call 31; refine (hga2 _).mono ?_; rintro e w_ ⟨rfl, hbw⟩))
              rename_i hK
              have O11 := Lib.hid (O10.out.bel hK.1)
              have Lw_ := Lib.hid (Lw9.out.bel hK.1)
              clear hK sv BK0 hvb2 hga2 O10 Lw9
              have f0 := Lw_.out.cell (i := 0) (v := .int .i64 re) (List.mem_cons_of_mem _ (List.mem_cons_self ..)) rfl
              have f1 := Lw_.out.cell (i := 1) (v := .int .i64 im) (List.mem_cons_of_mem _ (List.mem_cons_self ..)) rfl
              have f2 := Lw_.out.cell (i := 2) (v := .int .i64 kd) (List.mem_cons_of_mem _ (List.mem_cons_self ..)) rfl
              go_wp2_with fail
              refine (hv2 _).mono ?_
              rintro e wx ⟨rfl, hb⟩
              have Lwx := Lib.hid (Lw_.out.bel hb)
              have Ox := Lib.hid (O11.out.bel hb)
              clear O11
              clear hb Lw_ f0 f1 f2
              have hfa := fence_own (by omega) (by omega) HD.out (by have h := Ox.out.od; rwa [List.length_map, HD.out.1] at h) s1 s2 (-b) a (by have := HZB.out; omega)
              rw [fenF_turn, HIN.out] at hfa
              go_wp2_with fail
              refine (hfa).mono ?_
              rintro e wy ⟨rfl, hb⟩
              have Lwy := Lib.hid (Lwx.out.bel hb)
              clear hb Lwx 
              go_wp2_with fail
              refine (awake_any _).mono ?_
              rintro e wz ⟨rfl, hb⟩
              have Lwz := Lib.hid (Lwy.out.bel hb)
              clear hb Lwy 
              go_wp2
              go_ret
              exact ⟨rfl, Lwz.out.below⟩
            | true =>
              have hga2 : ∀ W, Calls Try.prog 31 #[cx (wd false a) (wd false b), cx (wd false c) (wd false d)] W fun e w' => e = .returned (.tuple #[cx (wd false (a + c)) (wd false (b + d)), .int .i64 0]) ∧ Below W.heap.size W w' := hga
              clear hga
              have sv : Hid (∀ W, Below w9.heap.size w9 W → Below w9.heap.size w9 W ∧ W.cell? ⟨w.heap.size, 0, none⟩ = some (.int .i64 re) ∧ W.cell? ⟨w.heap.size, 1, none⟩ = some (.int .i64 im) ∧ W.cell? ⟨w.heap.size, 2, none⟩ = some (.int .i64 kd) ∧ W.cell? ⟨w.heap.size + 1 + 1, 0, none⟩ = some (.int .i64 rb) ∧ W.cell? ⟨w.heap.size + 1 + 1, 1, none⟩ = some (.int .i64 ib) ∧ W.cell? ⟨w.heap.size + 1 + 1, 2, none⟩ = some (.int .i64 kb)) := Lib.hid fun W hb => by
                have LL := Lw9.out.bel hb
                exact ⟨hb, LL.cell (i := 0) (v := .int .i64 re) (List.mem_cons_of_mem _ (List.mem_cons_self ..)) rfl, LL.cell (i := 1) (v := .int .i64 im) (List.mem_cons_of_mem _ (List.mem_cons_self ..)) rfl, LL.cell (i := 2) (v := .int .i64 kd) (List.mem_cons_of_mem _ (List.mem_cons_self ..)) rfl, LL.cell (i := 0) (v := .int .i64 rb) (List.mem_cons_self ..) rfl, LL.cell (i := 1) (v := .int .i64 ib) (List.mem_cons_self ..) rfl, LL.cell (i := 2) (v := .int .i64 kb) (List.mem_cons_self ..) rfl⟩
              have BK0 := (Below.refl w9.heap.size w9).drew
              go_region_held3 (fun W => Below w9.heap.size w9 W ∧ W.cell? ⟨w.heap.size, 0, none⟩ = some (.int .i64 re) ∧ W.cell? ⟨w.heap.size, 1, none⟩ = some (.int .i64 im) ∧ W.cell? ⟨w.heap.size, 2, none⟩ = some (.int .i64 kd) ∧ W.cell? ⟨w.heap.size + 1 + 1, 0, none⟩ = some (.int .i64 rb) ∧ W.cell? ⟨w.heap.size + 1 + 1, 1, none⟩ = some (.int .i64 ib) ∧ W.cell? ⟨w.heap.size + 1 + 1, 2, none⟩ = some (.int .i64 kb))
                (first | (with_reducible exact sv.out _ BK0) | (with_reducible assumption) | (with_reducible exact sv.out _ (bt (And.left (by assumption)) hbw)))
                (first | (go_at_call 14; (first | (with_reducible refine (hv2 _).mono ?_) | (with_reducible refine (hvb2 _).mono ?_)); rintro e w_ ⟨rfl, hbw⟩) | (go_at_call 31; refine (hga2 _).mono ?_; rintro e w_ ⟨rfl, hbw⟩))
              rename_i hK
              have O11 := Lib.hid (O10.out.bel hK.1)
              have Lw_ := Lib.hid (Lw9.out.bel hK.1)
              clear hK sv BK0 hvb2 hga2 O10 Lw9
              have hfa := fence_own (by omega) (by omega) hac (by have h := O11.out.oc; rwa [List.length_map, hac.1] at h) false false (a + c) (b + d) (right_bd HR2.out)
              rw [fenF_move, HIN.out] at hfa
              go_wp2_with fail
              refine (hfa).mono ?_
              rintro e wv ⟨rfl, hb⟩
              have Lwv := Lib.hid (Lw_.out.bel hb)
              have O12 := Lib.hid (O11.out.bel hb)
              clear O11 hfa
              clear hb Lw_ 
              have f0 := Lwv.out.cell (i := 0) (v := .int .i64 re) (List.mem_cons_of_mem _ (List.mem_cons_self ..)) rfl
              have f1 := Lwv.out.cell (i := 1) (v := .int .i64 im) (List.mem_cons_of_mem _ (List.mem_cons_self ..)) rfl
              have f2 := Lwv.out.cell (i := 2) (v := .int .i64 kd) (List.mem_cons_of_mem _ (List.mem_cons_self ..)) rfl
              go_wp2_with fail
              refine (hv2 _).mono ?_
              rintro e wx ⟨rfl, hb⟩
              have Lwx := Lib.hid (Lwv.out.bel hb)
              have Ox := Lib.hid (O12.out.bel hb)
              clear O12
              clear hb Lwv f0 f1 f2
              have hfa := fence_own (by omega) (by omega) HD.out (by have h := Ox.out.od; rwa [List.length_map, HD.out.1] at h) s1 s2 (-b) a (by have := HZB.out; omega)
              rw [fenF_turn, HIN.out] at hfa
              go_wp2_with fail
              refine (hfa).mono ?_
              rintro e wy ⟨rfl, hb⟩
              have Lwy := Lib.hid (Lwx.out.bel hb)
              clear hb Lwx 
              go_wp2_with fail
              refine (awake_any _).mono ?_
              rintro e wz ⟨rfl, hb⟩
              have Lwz := Lib.hid (Lwy.out.bel hb)
              clear hb Lwy 
              go_wp2
              go_ret
              exact ⟨rfl, Lwz.out.below⟩
        | true =>
          cases whb with
          | false =>
            have f0 := Lw9.out.cell (i := 0) (v := .int .i64 re) (List.mem_cons_of_mem _ (List.mem_cons_self ..)) rfl
            have f1 := Lw9.out.cell (i := 1) (v := .int .i64 im) (List.mem_cons_of_mem _ (List.mem_cons_self ..)) rfl
            have f2 := Lw9.out.cell (i := 2) (v := .int .i64 kd) (List.mem_cons_of_mem _ (List.mem_cons_self ..)) rfl
            go_wp2_with fail
            refine (hv2 _).mono ?_
            rintro e wx ⟨rfl, hb⟩
            have Lwx := Lib.hid (Lw9.out.bel hb)
            have Ox := Lib.hid (O10.out.bel hb)
            clear O10
            clear hb Lw9 f0 f1 f2
            have hfa := fence_own (by omega) (by omega) HD.out (by have h := Ox.out.od; rwa [List.length_map, HD.out.1] at h) s1 s2 (-b) a (by have := HZB.out; omega)
            rw [fenF_turn, HIN.out] at hfa
            go_wp2_with fail
            refine (hfa).mono ?_
            rintro e wy ⟨rfl, hb⟩
            have Lwy := Lib.hid (Lwx.out.bel hb)
            clear hb Lwx 
            go_wp2_with fail
            refine (awake_any _).mono ?_
            rintro e wz ⟨rfl, hb⟩
            have Lwz := Lib.hid (Lwy.out.bel hb)
            clear hb Lwy 
            go_wp2
            go_ret
            exact ⟨rfl, Lwz.out.below⟩
          | true =>
            obtain ⟨hrcd, hac⟩ := HM.out (by first | rfl | trivial)
            have hvb2 : ∀ W, Calls Try.prog 14 #[.agg #[.int .i64 rb, .int .i64 ib, .int .i64 kb]] W fun e w' => e = .returned (cx (wd false c) (wd false d)) ∧ Below W.heap.size W w' := fun W => (hvb W).mono (by rintro e w' ⟨x, y, rfl, hN, hb⟩; obtain ⟨rfl, rfl⟩ := num_right hN hrcd; exact ⟨rfl, hb⟩)
            have hga := gadd_ok false false false false a b c d HRZ.out hrcd
            clear HM hvb
            obtain ⟨r2, hr2⟩ : ∃ x, rightB (a + c) (b + d) = x := ⟨_, rfl⟩
            have HR2 := Lib.hid hr2
            unfold toldV at hga
            rw [hr2] at hga
            clear hr2
            go_wp2_with fail
            cases r2 with
            | false =>
              have hga2 : ∀ W, Calls Try.prog 31 #[cx (wd false a) (wd false b), cx (wd false c) (wd false d)] W fun e w' => e = .returned (.tuple #[cx 0 0, .int .i64 10]) ∧ Below W.heap.size W w' := hga
              clear hga
              have sv : Hid (∀ W, Below w9.heap.size w9 W → Below w9.heap.size w9 W ∧ W.cell? ⟨w.heap.size, 0, none⟩ = some (.int .i64 re) ∧ W.cell? ⟨w.heap.size, 1, none⟩ = some (.int .i64 im) ∧ W.cell? ⟨w.heap.size, 2, none⟩ = some (.int .i64 kd) ∧ W.cell? ⟨w.heap.size + 1 + 1, 0, none⟩ = some (.int .i64 rb) ∧ W.cell? ⟨w.heap.size + 1 + 1, 1, none⟩ = some (.int .i64 ib) ∧ W.cell? ⟨w.heap.size + 1 + 1, 2, none⟩ = some (.int .i64 kb)) := Lib.hid fun W hb => by
                have LL := Lw9.out.bel hb
                exact ⟨hb, LL.cell (i := 0) (v := .int .i64 re) (List.mem_cons_of_mem _ (List.mem_cons_self ..)) rfl, LL.cell (i := 1) (v := .int .i64 im) (List.mem_cons_of_mem _ (List.mem_cons_self ..)) rfl, LL.cell (i := 2) (v := .int .i64 kd) (List.mem_cons_of_mem _ (List.mem_cons_self ..)) rfl, LL.cell (i := 0) (v := .int .i64 rb) (List.mem_cons_self ..) rfl, LL.cell (i := 1) (v := .int .i64 ib) (List.mem_cons_self ..) rfl, LL.cell (i := 2) (v := .int .i64 kb) (List.mem_cons_self ..) rfl⟩
              have BK0 := (Below.refl w9.heap.size w9).drew
              go_region_held3 (fun W => Below w9.heap.size w9 W ∧ W.cell? ⟨w.heap.size, 0, none⟩ = some (.int .i64 re) ∧ W.cell? ⟨w.heap.size, 1, none⟩ = some (.int .i64 im) ∧ W.cell? ⟨w.heap.size, 2, none⟩ = some (.int .i64 kd) ∧ W.cell? ⟨w.heap.size + 1 + 1, 0, none⟩ = some (.int .i64 rb) ∧ W.cell? ⟨w.heap.size + 1 + 1, 1, none⟩ = some (.int .i64 ib) ∧ W.cell? ⟨w.heap.size + 1 + 1, 2, none⟩ = some (.int .i64 kb))
                (first | (with_reducible exact sv.out _ BK0) | (with_reducible assumption) | (with_reducible exact sv.out _ (bt (And.left (by assumption)) hbw)))
                (first | (go_at_call 14; (first | (with_reducible refine (hv2 _).mono ?_) | (with_reducible refine (hvb2 _).mono ?_)); rintro e w_ ⟨rfl, hbw⟩) | (go_at_call 31; refine (hga2 _).mono ?_; rintro e w_ ⟨rfl, hbw⟩))
              rename_i hK
              have O11 := Lib.hid (O10.out.bel hK.1)
              have Lw_ := Lib.hid (Lw9.out.bel hK.1)
              clear hK sv BK0 hvb2 hga2 O10 Lw9
              have f0 := Lw_.out.cell (i := 0) (v := .int .i64 re) (List.mem_cons_of_mem _ (List.mem_cons_self ..)) rfl
              have f1 := Lw_.out.cell (i := 1) (v := .int .i64 im) (List.mem_cons_of_mem _ (List.mem_cons_self ..)) rfl
              have f2 := Lw_.out.cell (i := 2) (v := .int .i64 kd) (List.mem_cons_of_mem _ (List.mem_cons_self ..)) rfl
              go_wp2_with fail
              refine (hv2 _).mono ?_
              rintro e wx ⟨rfl, hb⟩
              have Lwx := Lib.hid (Lw_.out.bel hb)
              have Ox := Lib.hid (O11.out.bel hb)
              clear O11
              clear hb Lw_ f0 f1 f2
              have hfa := fence_own (by omega) (by omega) HD.out (by have h := Ox.out.od; rwa [List.length_map, HD.out.1] at h) s1 s2 (-b) a (by have := HZB.out; omega)
              rw [fenF_turn, HIN.out] at hfa
              go_wp2_with fail
              refine (hfa).mono ?_
              rintro e wy ⟨rfl, hb⟩
              have Lwy := Lib.hid (Lwx.out.bel hb)
              clear hb Lwx 
              go_wp2_with fail
              refine (awake_any _).mono ?_
              rintro e wz ⟨rfl, hb⟩
              have Lwz := Lib.hid (Lwy.out.bel hb)
              clear hb Lwy 
              go_wp2
              go_ret
              exact ⟨rfl, Lwz.out.below⟩
            | true =>
              have hga2 : ∀ W, Calls Try.prog 31 #[cx (wd false a) (wd false b), cx (wd false c) (wd false d)] W fun e w' => e = .returned (.tuple #[cx (wd false (a + c)) (wd false (b + d)), .int .i64 0]) ∧ Below W.heap.size W w' := hga
              clear hga
              have sv : Hid (∀ W, Below w9.heap.size w9 W → Below w9.heap.size w9 W ∧ W.cell? ⟨w.heap.size, 0, none⟩ = some (.int .i64 re) ∧ W.cell? ⟨w.heap.size, 1, none⟩ = some (.int .i64 im) ∧ W.cell? ⟨w.heap.size, 2, none⟩ = some (.int .i64 kd) ∧ W.cell? ⟨w.heap.size + 1 + 1, 0, none⟩ = some (.int .i64 rb) ∧ W.cell? ⟨w.heap.size + 1 + 1, 1, none⟩ = some (.int .i64 ib) ∧ W.cell? ⟨w.heap.size + 1 + 1, 2, none⟩ = some (.int .i64 kb)) := Lib.hid fun W hb => by
                have LL := Lw9.out.bel hb
                exact ⟨hb, LL.cell (i := 0) (v := .int .i64 re) (List.mem_cons_of_mem _ (List.mem_cons_self ..)) rfl, LL.cell (i := 1) (v := .int .i64 im) (List.mem_cons_of_mem _ (List.mem_cons_self ..)) rfl, LL.cell (i := 2) (v := .int .i64 kd) (List.mem_cons_of_mem _ (List.mem_cons_self ..)) rfl, LL.cell (i := 0) (v := .int .i64 rb) (List.mem_cons_self ..) rfl, LL.cell (i := 1) (v := .int .i64 ib) (List.mem_cons_self ..) rfl, LL.cell (i := 2) (v := .int .i64 kb) (List.mem_cons_self ..) rfl⟩
              have BK0 := (Below.refl w9.heap.size w9).drew
              go_region_held3 (fun W => Below w9.heap.size w9 W ∧ W.cell? ⟨w.heap.size, 0, none⟩ = some (.int .i64 re) ∧ W.cell? ⟨w.heap.size, 1, none⟩ = some (.int .i64 im) ∧ W.cell? ⟨w.heap.size, 2, none⟩ = some (.int .i64 kd) ∧ W.cell? ⟨w.heap.size + 1 + 1, 0, none⟩ = some (.int .i64 rb) ∧ W.cell? ⟨w.heap.size + 1 + 1, 1, none⟩ = some (.int .i64 ib) ∧ W.cell? ⟨w.heap.size + 1 + 1, 2, none⟩ = some (.int .i64 kb))
                (first | (with_reducible exact sv.out _ BK0) | (with_reducible assumption) | (with_reducible exact sv.out _ (bt (And.left (by assumption)) hbw)))
                (first | (go_at_call 14; (first | (with_reducible refine (hv2 _).mono ?_) | (with_reducible refine (hvb2 _).mono ?_)); rintro e w_ ⟨rfl, hbw⟩) | (go_at_call 31; refine (hga2 _).mono ?_; rintro e w_ ⟨rfl, hbw⟩))
              rename_i hK
              have O11 := Lib.hid (O10.out.bel hK.1)
              have Lw_ := Lib.hid (Lw9.out.bel hK.1)
              clear hK sv BK0 hvb2 hga2 O10 Lw9
              have hfa := fence_own (by omega) (by omega) hac (by have h := O11.out.oc; rwa [List.length_map, hac.1] at h) false false (a + c) (b + d) (right_bd HR2.out)
              rw [fenF_move, HIN.out] at hfa
              go_wp2_with fail
              refine (hfa).mono ?_
              rintro e wv ⟨rfl, hb⟩
              have Lwv := Lib.hid (Lw_.out.bel hb)
              have O12 := Lib.hid (O11.out.bel hb)
              clear O11 hfa
              clear hb Lw_ 
              have f0 := Lwv.out.cell (i := 0) (v := .int .i64 re) (List.mem_cons_of_mem _ (List.mem_cons_self ..)) rfl
              have f1 := Lwv.out.cell (i := 1) (v := .int .i64 im) (List.mem_cons_of_mem _ (List.mem_cons_self ..)) rfl
              have f2 := Lwv.out.cell (i := 2) (v := .int .i64 kd) (List.mem_cons_of_mem _ (List.mem_cons_self ..)) rfl
              go_wp2_with fail
              refine (hv2 _).mono ?_
              rintro e wx ⟨rfl, hb⟩
              have Lwx := Lib.hid (Lwv.out.bel hb)
              have Ox := Lib.hid (O12.out.bel hb)
              clear O12
              clear hb Lwv f0 f1 f2
              have hfa := fence_own (by omega) (by omega) HD.out (by have h := Ox.out.od; rwa [List.length_map, HD.out.1] at h) s1 s2 (-b) a (by have := HZB.out; omega)
              rw [fenF_turn, HIN.out] at hfa
              go_wp2_with fail
              refine (hfa).mono ?_
              rintro e wy ⟨rfl, hb⟩
              have Lwy := Lib.hid (Lwx.out.bel hb)
              clear hb Lwx 
              go_wp2_with fail
              refine (awake_any _).mono ?_
              rintro e wz ⟨rfl, hb⟩
              have Lwz := Lib.hid (Lwy.out.bel hb)
              clear hb Lwy 
              go_wp2
              go_ret
              exact ⟨rfl, Lwz.out.below⟩
end Go.Proofs.Ytbgllbjkmjlipaa
