/- Contract: Follow. -/
import Derived.Test.YtbgllbjkmjlipaaW14
namespace Go.Proofs.Ytbgllbjkmjlipaa
open Go.RowKit Go.Shelf
attribute [local go_sem] fmt64
attribute [local go_sem ↓] st79
attribute [local go_sem] st79_run run_store_complex

theorem all_exact {f : Nat → Int × Int} {n : Nat} (h : ∀ k, k < n → rightB (f k).1 (f k).2 = true) : allB (fun k => wd false (f k).1) (fun k => wd false (f k).2) n = true := by
  induction n with
  | zero => rfl
  | succ m ih =>
    have hr := h m (by omega)
    have hb := right_bd hr
    rw [allB, ih (fun k hk => h k (by omega)), may_wd _ _ _ _ (by omega) (by omega), hr]
    rfl

theorem own_base {W : World} {B B' size n : Nat} {e : TypeId} {v : Value} {l : List Value} (h : W.ownsRow B e size v n l) (hb : B' ≤ B) : W.ownsRow B' e size v n l := by
  obtain ⟨h1, h2⟩ := h
  refine ⟨h1, ?_⟩
  rcases h2 with h2 | ⟨g, cap, cur, hv, hg, r⟩
  · exact .inl h2
  · exact .inr ⟨g, cap, cur, hv, Nat.le_trans hb hg, r⟩
theorem own_pt {W : World} {base g n cap : Nat} {f : Nat → Int × Int} (hr : W.ownsRow base 31 1 (.slice (some ⟨g, 0, none⟩) n cap) n ((listOf f n).map gval)) (hf : ∀ k, k < n → (f k).1.natAbs < 1048576 ∧ (f k).2.natAbs < 1048576) {j : Nat} (hj : j < n) :
    W.cell? ⟨g, j, none⟩ = some (cx (wd false (f j).1) (wd false (f j).2)) := by
  rw [hr.cellAt j (by omega), ← gval_gpz (hf j hj)]
  simp [listOf, hj]
theorem own_same {W : World} {base g n cap : Nat} {f : Nat → Int × Int} (hr : W.ownsRow base 31 1 (.slice (some ⟨g, 0, none⟩) n cap) n ((listOf f n).map gval)) (hf : ∀ k, k < n → (f k).1.natAbs < 1048576 ∧ (f k).2.natAbs < 1048576) {j : Nat} (hj : j < n) :
    (W.setCell ⟨g, j, none⟩ (cx (wd false (f j).1) (wd false (f j).2))).ownsRow base 31 1 (.slice (some ⟨g, 0, none⟩) n cap) n ((listOf f n).map gval) := by
  have h := (hr.stored j (cx (wd false (f j).1) (wd false (f j).2))).1
  have e : ((listOf f n).map gval).set j (cx (wd false (f j).1) (wd false (f j).2)) = (listOf f n).map gval := by
    rw [← gval_gpz (hf j hj)]
    apply List.ext_getElem?
    intro i
    by_cases hi : i = j
    · subst hi
      simp [listOf, hj]
    · rw [List.getElem?_set_ne (fun e => hi e.symm)]
  rw [e] at h
  exact h
theorem pts_cells {W : World} {B b0 off n : Nat} {f : Nat → Int × Int} (hp : Pts W B (some ⟨b0, off, none⟩) n (fun k => cx (wd false (f k).1) (wd false (f k).2))) (hf : ∀ k, k < n → (f k).1.natAbs < 1048576 ∧ (f k).2.natAbs < 1048576) {j : Nat} {u : Value} (hj : ((listOf f n).map gval)[j]? = some u) : W.cell? ⟨b0, off + j, none⟩ = some u := by
  have hl : j < n := by
    have := (List.getElem?_eq_some_iff.1 hj).1
    simpa [listOf] using this
  obtain ⟨_, _, e, _, hc⟩ := hp j hl
  cases e
  rw [hc, ← hj]
  simp only [← gval_gpz (hf j hl)]
  simp [listOf, hl]
theorem LW.setFar {w W : World} {k : Nat} {L : List MRow} {b i : Nat} (h : LW w k L W) (hne : ∀ x ∈ L, x.1 ≠ b) (hb : w.heap.size ≤ b) (v : Value) : LW w k L (W.setCell ⟨b, i, none⟩ v) :=
  ⟨fun x hx => (Below.heap_setCell W _ v x.1 (hne x hx)).trans (h.rows x hx), h.below.setCell hb _, by simpa using h.size⟩
theorem LW.setRowFar {w W : World} {k : Nat} {L : List MRow} {b : Nat} (h : LW w k L W) (hne : ∀ x ∈ L, x.1 ≠ b) (hb : w.heap.size ≤ b) (cs : Array Value) : LW w k L (W.setRow b cs) :=
  ⟨fun x hx => (setRow_other W b x.1 cs (hne x hx)).trans (h.rows x hx), below_setRow h.below hb _, by simpa using h.size⟩
theorem LW.one {w W : World} {k : Nat} {x y : MRow} (h : LW w k [x, y] W) : LW w k [x] W := ⟨fun z hz => h.rows z (by obtain rfl := List.mem_singleton.1 hz; exact List.mem_cons_self ..), h.below, h.size⟩
theorem own_setRow {W : World} {B size n : Nat} {e : TypeId} {v : Value} {l : List Value} (h : W.ownsRow B e size v n l) {b : Nat} (hb : v.ownBlock ≠ some b) (cs : Array Value) : (W.setRow b cs).ownsRow B e size v n l := by
  obtain ⟨h1, h2⟩ := h
  refine ⟨h1, ?_⟩
  rcases h2 with h2 | ⟨g, cap, cur, hv, hg, hh, r⟩
  · exact .inl h2
  · subst hv
    exact .inr ⟨g, cap, cur, rfl, hg, (setRow_other W b g cs (fun e => hb (by simp [Value.ownBlock, e]))).trans hh, r⟩
theorem fol_ne3 (a : Nat) (t : TypeId) (c : Array Value) : ∀ x : MRow, x ∈ [(a, t, c)] → x.1 ≠ a + 1 := by
  intro x hx
  obtain rfl := List.mem_singleton.1 hx
  simp
theorem fol_ne1 (a : Nat) : ∀ x : MRow, x ∈ [(a + 1, 79, #[Value.slice none 0 0, .int .i64 0, .int .i64 0])] → x.1 ≠ a := by
  intro x hx
  obtain rfl := List.mem_singleton.1 hx
  simp
theorem fol_ne2 {a g : Nat} (h : a + 1 < g) (t t' : TypeId) (c c' : Array Value) : ∀ x : MRow, x ∈ [(a, t, c), (a + 1, t', c')] → x.1 ≠ g := by
  intro x hx
  rcases List.mem_cons.1 hx with rfl | hx
  · show a ≠ g; omega
  · obtain rfl := List.mem_singleton.1 hx
    show a + 1 ≠ g; omega
theorem LW.size2 {w W : World} {b : Nat} {x : MRow} {t : TypeId} {c : Array Value} (h : LW w 0 [x, (b, t, c)] W) : b < W.heap.size := (Array.getElem?_eq_some_iff.1 (h.row (List.mem_cons_of_mem _ (List.mem_cons_self ..)))).1

set_option maxRecDepth 100000 in
set_option maxHeartbeats 4000000 in
theorem follow_ok (A : Option Addr) (n cap k0 : Nat) (near a b : Int) (f : Nat → Int × Int) (hn : n ≤ 100) (hk0 : k0 < n) (h0 : 0 ≤ near) (hz : rightB a b = true) (hf : ∀ k, k < n → rightB (f k).1 (f k).2 = true) (w : World) (hp : Pts w w.heap.size A n (fun k => cx (wd false (f k).1) (wd false (f k).2))) :
    Calls Try.prog 38 #[route A n cap k0 near, cx (wd false a) (wd false b)] w fun e w' => ∃ v, e = .returned (.tuple #[cx (wd false (f (folF (nearF f near a b) (n - 1 - k0) k0)).1) (wd false (f (folF (nearF f near a b) (n - 1 - k0) k0)).2), .agg #[v, .int .i64 (folF (nearF f near a b) (n - 1 - k0) k0), .int .i64 near], .int .i64 0]) ∧ w'.ownsRow w.heap.size 31 1 v n ((listOf f n).map gval) ∧ Below w.heap.size w w' := by
  obtain ⟨b0, off, rfl, hb0, _⟩ := hp 0 (by omega)
  clear hb0
  have L0 := (((LW.nil w).new 79 #[.slice (some ⟨b0, off, none⟩) n cap, .int .i64 k0, .int .i64 near]).new 79 #[.slice none 0 0, .int .i64 0, .int .i64 0])
  simp only [World.size_alloc] at L0
  have hal := all_any (some ⟨b0, off, none⟩) n cap _ _ (by omega) _ ((hp.below L0.below).more L0.below.size)
  rw [all_exact hf] at hal
  have hzb := right_bd hz
  have hmy := may_any (wd false a) (wd false b)
  rw [may_wd _ _ _ _ (by omega) (by omega), hz] at hmy
  have c1 := L0.cell (i := 1) (b := w.heap.size) (v := .int .i64 k0) (List.mem_cons_of_mem _ (List.mem_cons_self ..)) rfl
  have c0 := L0.cell (i := 0) (b := w.heap.size) (v := .slice (some ⟨b0, off, none⟩) n cap) (List.mem_cons_of_mem _ (List.mem_cons_self ..)) rfl
  have LL := Lib.hid L0
  have HF := Lib.hid hf
  have HP := Lib.hid hp
  have HZB := Lib.hid hzb
  clear L0 hf hz hp hzb
  have d0 : decide ((k0 : Int) < 0) = false := by simp
  have d1 : decide ((k0 : Int) ≥ (n : Int)) = false := by simp; omega
  have d2 : decide (near < 0) = false := by simp; omega
  obtain ⟨K, hK⟩ : ∃ K, folF (nearF f near a b) (n - 1 - k0) k0 = K := ⟨_, rfl⟩
  rw [hK]
  have HK := Lib.hid hK
  have hKn : K < n := by have := folF_lt (F := nearF f near a b) (n - 1 - k0) k0; omega
  clear hK
  go_enter Try.func38, Try.ntmps38
  go_wp2
  refine wp_scope_jumps 0 (fun a' w' => ∃ (k : Nat) (u36 u37 u38 u39 u40 u41 u42 u43 u44 u45 u46 u47 u48 u49 u50 u51 u52 u53 u54 u55 u56 u57 u58 u59 : Value), a' = { tmps := #[route (some ⟨b0, off, none⟩) n cap k0 near, cx (wd false a) (wd false b), .pointer (some ⟨w.heap.size, 0, none⟩), undef, .complex .f64 0 0, .pointer (some ⟨w.heap.size + 1, 0, none⟩), .int .i64 0, undef, undef, .pointer (some ⟨w.heap.size, 1, none⟩), .int .i64 k0, .bool false, .bool false, .pointer (some ⟨w.heap.size, 1, none⟩), .int .i64 k0, .pointer (some ⟨w.heap.size, 0, none⟩), .slice (some ⟨b0, off, none⟩) n cap, .int .i64 n, .bool false, .bool false, undef, .pointer (some ⟨w.heap.size, 0, none⟩), .slice (some ⟨b0, off, none⟩) n cap, .bool true, .bool false, .bool false, cx (wd false a) (wd false b), .bool true, .bool false, .bool false, .bool false, .pointer (some ⟨w.heap.size, 2, none⟩), .int .i64 near, .bool false, .bool false, undef, u36, u37, u38, u39, u40, u41, u42, u43, u44, u45, u46, u47, u48, u49, u50, u51, u52, u53, u54, u55, u56, u57, u58, u59, undef, undef, undef, undef, undef, undef, undef, undef, undef, undef, undef, undef, undef, undef, undef, undef, undef, undef, undef, undef, undef, undef, undef, undef, undef, undef], defers := [] } ∧ k < n ∧ Hid (folF (nearF f near a b) (n - 1 - k) k = K) ∧ Hid (LW w 0 [(w.heap.size, 79, #[.slice (some ⟨b0, off, none⟩) n cap, .int .i64 k, .int .i64 near]), (w.heap.size + 1, 79, #[.slice none 0 0, .int .i64 0, .int .i64 0])] w')) (fun _ w' => match w'.cell? ⟨w.heap.size, 1, none⟩ with | some v => n - (intOf v).toNat | none => 0) rfl ?_ ?_
  · go_wp2_with fail
    refine hal.mono ?_
    rintro e w1 ⟨rfl, hb⟩
    have L1 := Lib.hid (LL.out.bel hb)
    clear hb LL c0 c1
    go_wp2_with fail
    refine (hmy _).mono ?_
    rintro e w2 ⟨rfl, hb⟩
    have L2 := Lib.hid (L1.out.bel hb).swap
    have c0 := L2.out.cell (i := 0) (b := w.heap.size) (List.mem_cons_self ..) rfl
    have c1 := L2.out.cell (i := 1) (b := w.heap.size) (List.mem_cons_self ..) rfl
    have c2 := L2.out.cell (i := 2) (b := w.heap.size) (List.mem_cons_self ..) rfl
    clear hb L1
    go_wp2
    go_step3
    go_wp2
    rename_i K0 hK0 K1 hK1
    have tail : ∀ (W : World) (u36 u37 u38 u39 u40 u41 u42 u43 u44 u45 u46 u47 u48 u49 u50 u51 u52 u53 u54 u55 u56 u57 u58 u59 : Value), Hid (LW w 0 [(w.heap.size, 79, #[.slice (some ⟨b0, off, none⟩) n cap, .int .i64 K, .int .i64 near]), (w.heap.size + 1, 79, #[.slice none 0 0, .int .i64 0, .int .i64 0])] W) → K0 { tmps := #[route (some ⟨b0, off, none⟩) n cap k0 near, cx (wd false a) (wd false b), .pointer (some ⟨w.heap.size, 0, none⟩), undef, .complex .f64 0 0, .pointer (some ⟨w.heap.size + 1, 0, none⟩), .int .i64 0, undef, undef, .pointer (some ⟨w.heap.size, 1, none⟩), .int .i64 k0, .bool false, .bool false, .pointer (some ⟨w.heap.size, 1, none⟩), .int .i64 k0, .pointer (some ⟨w.heap.size, 0, none⟩), .slice (some ⟨b0, off, none⟩) n cap, .int .i64 n, .bool false, .bool false, undef, .pointer (some ⟨w.heap.size, 0, none⟩), .slice (some ⟨b0, off, none⟩) n cap, .bool true, .bool false, .bool false, cx (wd false a) (wd false b), .bool true, .bool false, .bool false, .bool false, .pointer (some ⟨w.heap.size, 2, none⟩), .int .i64 near, .bool false, .bool false, undef, u36, u37, u38, u39, u40, u41, u42, u43, u44, u45, u46, u47, u48, u49, u50, u51, u52, u53, u54, u55, u56, u57, u58, u59, undef, undef, undef, undef, undef, undef, undef, undef, undef, undef, undef, undef, undef, undef, undef, undef, undef, undef, undef, undef, undef, undef, undef, undef, undef, undef], defers := [] } W := by
      intro W u36 u37 u38 u39 u40 u41 u42 u43 u44 u45 u46 u47 u48 u49 u50 u51 u52 u53 u54 u55 u56 u57 u58 u59 HL
      refine hK0 _ _ ?_
      clear hK0
      have hcl := clone_any b0 off n cap ((listOf f n).map gval) (by simp [listOf]) (fun u hu => by obtain ⟨p, _, rfl⟩ := List.mem_map.1 hu; rfl) hn W (fun j u hj => pts_cells (HP.out.below HL.out.below) (fun k hk => right_bd (HF.out k hk)) hj)
      have c0 := HL.out.cell (i := 0) (b := w.heap.size) (List.mem_cons_self ..) rfl
      go_wp2_with fail
      refine hcl.mono ?_
      rintro e w3 ⟨v, rfl, hown, hb⟩
      obtain ⟨g, c9, rfl, hg, _, _⟩ := own_cells hown (by omega)
      have L3 := Lib.hid (HL.out.bel hb)
      have hsz := HL.out.size2
      have HO3 := Lib.hid (own_base hown (by omega : w.heap.size ≤ W.heap.size))
      have z0 := L3.out.cell (i := 0) (b := w.heap.size) (List.mem_cons_self ..) rfl
      have z1 := L3.out.froz (i := 0) (b := w.heap.size) (List.mem_cons_self ..)
      have hg2 : w.heap.size + 1 < g := by omega
      have L4 := Lib.hid (L3.out.putCell (i := 0) (fol_ne1 _) (Nat.le_refl _) (.slice (some ⟨g, 0, none⟩) n c9))
      have HO4 := Lib.hid (ownsRow_setCell_other (a := ⟨w.heap.size, 0, none⟩) HO3.out (by simp [Value.ownBlock]; omega) (.slice (some ⟨g, 0, none⟩) n c9))
      have y0 := L4.out.cell (i := 0) (b := w.heap.size) (List.mem_cons_self ..) rfl
      clear hb hown HL hcl c0 L3 HO3 hsz hg
      go_wp2
      clear y0 z0 z1
      go_loopw [7, 8, 67] (fun _ _ i wr => ∃ (j : Nat), j ≤ n ∧ i = .int .i64 j ∧ Hid (wr.ownsRow w.heap.size 31 1 (.slice (some ⟨g, 0, none⟩) n c9) n ((listOf f n).map gval)) ∧ Hid (LW w 0 [(w.heap.size, 79, #[.slice (some ⟨g, 0, none⟩) n c9, .int .i64 K, .int .i64 near]), (w.heap.size + 1, 79, #[.slice none 0 0, .int .i64 0, .int .i64 0])] wr)) (fun _ _ i _ => n - (intOf i).toNat)
      case atStart => exact ⟨0, Nat.zero_le _, rfl, HO4, L4⟩
      case round =>
        clear HO4 L4
        obtain ⟨j, hj, rfl, HO, HL⟩ := hrel
        by_cases hlt : j < n
        · have hfj := right_bd (HF.out j hlt)
          have i1 : (0 : Int) ≤ (j : Int) := by omega
          have i2 : (j : Int) < (n : Int) := by omega
          have HC : Hid (∀ W, W.ownsRow w.heap.size 31 1 (.slice (some ⟨g, 0, none⟩) n c9) n ((listOf f n).map gval) ∧ LW w 0 [(w.heap.size, 79, #[.slice (some ⟨g, 0, none⟩) n c9, .int .i64 K, .int .i64 near]), (w.heap.size + 1, 79, #[.slice none 0 0, .int .i64 0, .int .i64 0])] W → (W.ownsRow w.heap.size 31 1 (.slice (some ⟨g, 0, none⟩) n c9) n ((listOf f n).map gval) ∧ LW w 0 [(w.heap.size, 79, #[.slice (some ⟨g, 0, none⟩) n c9, .int .i64 K, .int .i64 near]), (w.heap.size + 1, 79, #[.slice none 0 0, .int .i64 0, .int .i64 0])] W) ∧ W.cell? ⟨w.heap.size, 0, none⟩ = some (.slice (some ⟨g, 0, none⟩) n c9) ∧ W.cell? ⟨g, j, none⟩ = some (cx (wd false (f j).1) (wd false (f j).2)) ∧ W.frozen? ⟨g, j, none⟩ = false) := Lib.hid fun W hI => ⟨hI, hI.2.cell (i := 0) (b := w.heap.size) (List.mem_cons_self ..) rfl, own_pt hI.1 (fun k hk => right_bd (HF.out k hk)) hlt, hI.1.frozenAt j⟩
          have HS : Hid (∀ W, W.ownsRow w.heap.size 31 1 (.slice (some ⟨g, 0, none⟩) n c9) n ((listOf f n).map gval) ∧ LW w 0 [(w.heap.size, 79, #[.slice (some ⟨g, 0, none⟩) n c9, .int .i64 K, .int .i64 near]), (w.heap.size + 1, 79, #[.slice none 0 0, .int .i64 0, .int .i64 0])] W → (W.setCell ⟨g, j, none⟩ (cx (wd false (f j).1) (wd false (f j).2))).ownsRow w.heap.size 31 1 (.slice (some ⟨g, 0, none⟩) n c9) n ((listOf f n).map gval) ∧ LW w 0 [(w.heap.size, 79, #[.slice (some ⟨g, 0, none⟩) n c9, .int .i64 K, .int .i64 near]), (w.heap.size + 1, 79, #[.slice none 0 0, .int .i64 0, .int .i64 0])] (W.setCell ⟨g, j, none⟩ (cx (wd false (f j).1) (wd false (f j).2)))) := Lib.hid fun W hI => ⟨own_same hI.1 (fun k hk => right_bd (HF.out k hk)) hlt, hI.2.setFar (fol_ne2 hg2 _ _ _ _) (by omega) _⟩
          have hpl := nplain_any false false (f j).1 (f j).2 (by omega) (by omega)
          have I0 : wr.drew.ownsRow w.heap.size 31 1 (.slice (some ⟨g, 0, none⟩) n c9) n ((listOf f n).map gval) ∧ LW w 0 [(w.heap.size, 79, #[.slice (some ⟨g, 0, none⟩) n c9, .int .i64 K, .int .i64 near]), (w.heap.size + 1, 79, #[.slice none 0 0, .int .i64 0, .int .i64 0])] wr.drew := ⟨HO.out, HL.out.drew⟩
          have cj := own_pt HO.out (fun k hk => right_bd (HF.out k hk)) hlt
          generalize wd false (f j).1 = x at *
          generalize wd false (f j).2 = y at *
          clear HO HL
          go_wp2
          clear cj
          go_region_held3 (fun W => (W.ownsRow w.heap.size 31 1 (.slice (some ⟨g, 0, none⟩) n c9) n ((listOf f n).map gval) ∧ LW w 0 [(w.heap.size, 79, #[.slice (some ⟨g, 0, none⟩) n c9, .int .i64 K, .int .i64 near]), (w.heap.size + 1, 79, #[.slice none 0 0, .int .i64 0, .int .i64 0])] W) ∧ W.cell? ⟨w.heap.size, 0, none⟩ = some (.slice (some ⟨g, 0, none⟩) n c9) ∧ W.cell? ⟨g, j, none⟩ = some (cx x y) ∧ W.frozen? ⟨g, j, none⟩ = false)
            (first | (with_reducible exact HC.out _ I0) | (with_reducible assumption) | (with_reducible exact HC.out _ (HS.out _ (And.left (by assumption)))) | (exact HC.out _ (HS.out wr.drew I0)))
            (first | (go_at_call 57; refine (hpl _).mono ?_; rintro e w_ ⟨rfl, rfl⟩))
          rename_i hK
          have HO := Lib.hid hK.1.1
          have HL := Lib.hid hK.1.2
          clear hK HC HS I0 hpl
          go_wp2
          go_roundw
          case rel => exact ⟨j + 1, by omega, by go_num, HO, HL⟩
          case measure => simp [intOf]; omega
        · obtain rfl : n = j := by omega
          clear hlt hj
          have HC : Hid (∀ W, W.ownsRow w.heap.size 31 1 (.slice (some ⟨g, 0, none⟩) n c9) n ((listOf f n).map gval) ∧ LW w 0 [(w.heap.size, 79, #[.slice (some ⟨g, 0, none⟩) n c9, .int .i64 K, .int .i64 near])] W ∧ RR (w.heap.size + 1) 3 79 W → (W.ownsRow w.heap.size 31 1 (.slice (some ⟨g, 0, none⟩) n c9) n ((listOf f n).map gval) ∧ LW w 0 [(w.heap.size, 79, #[.slice (some ⟨g, 0, none⟩) n c9, .int .i64 K, .int .i64 near])] W ∧ RR (w.heap.size + 1) 3 79 W) ∧ RR (w.heap.size + 1) 3 79 W ∧ W.cell? ⟨w.heap.size, 0, none⟩ = some (.slice (some ⟨g, 0, none⟩) n c9) ∧ W.cell? ⟨w.heap.size, 1, none⟩ = some (.int .i64 K) ∧ W.cell? ⟨w.heap.size, 2, none⟩ = some (.int .i64 near) ∧ W.cell? ⟨g, K, none⟩ = some (cx (wd false (f K).1) (wd false (f K).2))) := Lib.hid fun W hI => ⟨hI, hI.2.2, hI.2.1.cell (i := 0) (b := w.heap.size) (List.mem_cons_self ..) rfl, hI.2.1.cell (i := 1) (b := w.heap.size) (List.mem_cons_self ..) rfl, hI.2.1.cell (i := 2) (b := w.heap.size) (List.mem_cons_self ..) rfl, own_pt hI.1 (fun k hk => right_bd (HF.out k hk)) hKn⟩
          have HS : Hid (∀ W, W.ownsRow w.heap.size 31 1 (.slice (some ⟨g, 0, none⟩) n c9) n ((listOf f n).map gval) ∧ LW w 0 [(w.heap.size, 79, #[.slice (some ⟨g, 0, none⟩) n c9, .int .i64 K, .int .i64 near])] W ∧ RR (w.heap.size + 1) 3 79 W → (W.setRow (w.heap.size + 1) #[.slice (some ⟨g, 0, none⟩) n c9, .int .i64 K, .int .i64 near]).ownsRow w.heap.size 31 1 (.slice (some ⟨g, 0, none⟩) n c9) n ((listOf f n).map gval) ∧ LW w 0 [(w.heap.size, 79, #[.slice (some ⟨g, 0, none⟩) n c9, .int .i64 K, .int .i64 near])] (W.setRow (w.heap.size + 1) #[.slice (some ⟨g, 0, none⟩) n c9, .int .i64 K, .int .i64 near]) ∧ RR (w.heap.size + 1) 3 79 (W.setRow (w.heap.size + 1) #[.slice (some ⟨g, 0, none⟩) n c9, .int .i64 K, .int .i64 near])) := Lib.hid fun W hI => ⟨own_setRow hI.1 (by simp [Value.ownBlock]; omega) _, hI.2.1.setRowFar (fol_ne3 _ _ _) (by omega) _, hI.2.2.setRow _ rfl⟩
          have I0 : wr.drew.ownsRow w.heap.size 31 1 (.slice (some ⟨g, 0, none⟩) n c9) n ((listOf f n).map gval) ∧ LW w 0 [(w.heap.size, 79, #[.slice (some ⟨g, 0, none⟩) n c9, .int .i64 K, .int .i64 near])] wr.drew ∧ RR (w.heap.size + 1) 3 79 wr.drew := ⟨HO.out, LW.one HL.out.drew, HL.out.drew.rr (List.mem_cons_of_mem _ (List.mem_cons_self ..))⟩
          have i1 : (0 : Int) ≤ (K : Int) := by omega
          have i2 : (K : Int) < (n : Int) := by omega
          have LF := Lib.hid (LW.putRow HL.out.drew.swap (fol_ne3 _ _ _) (by omega) #[.slice (some ⟨g, 0, none⟩) n c9, .int .i64 K, .int .i64 near])
          clear HO HL
          go_wp2
          go_region_held3 (fun W => (W.ownsRow w.heap.size 31 1 (.slice (some ⟨g, 0, none⟩) n c9) n ((listOf f n).map gval) ∧ LW w 0 [(w.heap.size, 79, #[.slice (some ⟨g, 0, none⟩) n c9, .int .i64 K, .int .i64 near])] W ∧ RR (w.heap.size + 1) 3 79 W) ∧ RR (w.heap.size + 1) 3 79 W ∧ W.cell? ⟨w.heap.size, 0, none⟩ = some (.slice (some ⟨g, 0, none⟩) n c9) ∧ W.cell? ⟨w.heap.size, 1, none⟩ = some (.int .i64 K) ∧ W.cell? ⟨w.heap.size, 2, none⟩ = some (.int .i64 near) ∧ W.cell? ⟨g, K, none⟩ = some (cx (wd false (f K).1) (wd false (f K).2)))
            (first | (with_reducible exact HC.out _ I0) | (with_reducible assumption) | (with_reducible exact HC.out _ (HS.out _ (And.left (by assumption)))) | (exact HC.out _ (HS.out wr.drew I0)))
            (fail)
          rename_i hK
          have HO := Lib.hid hK.1.1
          clear hK HC HS I0
          go_wp2
          simp only [Exit.jump]
          exact fol_end LF.out rfl rfl rfl ⟨_, rfl, HO.out, LF.out.below⟩
    clear hK0
    by_cases hlt : k0 + 1 < n
    · obtain ⟨_, _, e_, hbl, ck⟩ := HP.out k0 (by omega)
      cases e_
      have ck2 := (L2.out.below.cell (p := ⟨b0, off + k0, none⟩) hbl).trans ck
      have d3 : decide ((k0 : Int) < (n : Int) - 1) = true := by simp; omega
      have wn : IntKind.i64.wrap ((n : Int) - 1) = (n : Int) - 1 := wr6 (by omega)
      have wk : IntKind.i64.wrap ((k0 : Int) + 1) = (k0 : Int) + 1 := wr6 (by omega)
      have bk := right_bd (HF.out k0 (by omega))
      have hfa := far_any false false false false (f k0).1 (f k0).2 a b bk.1 bk.2 HZB.out.1 HZB.out.2
      have HH : Hid (nearF f near a b k0 = decide (distF (f k0).1 (f k0).2 a b ≤ near)) := Lib.hid rfl
      have i5 : (0 : Int) ≤ (k0 : Int) := by omega
      have i6 : (k0 : Int) < (n : Int) := by omega
      have HC : Hid (∀ W, Below w2.heap.size w2 W → Below w2.heap.size w2 W ∧ W.cell? ⟨w.heap.size, 0, none⟩ = some (.slice (some ⟨b0, off, none⟩) n cap) ∧ W.cell? ⟨w.heap.size, 1, none⟩ = some (.int .i64 k0) ∧ W.cell? ⟨w.heap.size, 2, none⟩ = some (.int .i64 near) ∧ W.cell? ⟨b0, off + k0, none⟩ = some (cx (wd false (f k0).1) (wd false (f k0).2))) := Lib.hid fun W hW => by
        have LL := L2.out.bel hW
        exact ⟨hW, LL.cell (i := 0) (b := w.heap.size) (List.mem_cons_self ..) rfl, LL.cell (i := 1) (b := w.heap.size) (List.mem_cons_self ..) rfl, LL.cell (i := 2) (b := w.heap.size) (List.mem_cons_self ..) rfl, (LL.below.cell (p := ⟨b0, off + k0, none⟩) hbl).trans ck⟩
      have BK0 := (Below.refl w2.heap.size w2).drew
      generalize distF (f k0).1 (f k0).2 a b = D at *
      generalize wd false (f k0).1 = x at *
      generalize wd false (f k0).2 = y at *
      clear ck bk ck2
      obtain ⟨q, hq⟩ : ∃ q, decide (D ≤ near) = q := ⟨_, rfl⟩
      have HQ := Lib.hid hq
      cases q with
      | false =>
        go_region_held3 (fun W => Below w2.heap.size w2 W ∧ W.cell? ⟨w.heap.size, 0, none⟩ = some (.slice (some ⟨b0, off, none⟩) n cap) ∧ W.cell? ⟨w.heap.size, 1, none⟩ = some (.int .i64 k0) ∧ W.cell? ⟨w.heap.size, 2, none⟩ = some (.int .i64 near) ∧ W.cell? ⟨b0, off + k0, none⟩ = some (cx x y))
          (first | (with_reducible exact HC.out _ BK0) | (with_reducible assumption) | (with_reducible exact HC.out _ (bt (And.left (by assumption)) hbw)))
          (first | (go_at_call 58; refine (hfa _).mono ?_; rintro e w_ ⟨rfl, rfl⟩))
        rename_i hK
        have LZ := Lib.hid (L2.out.bel hK.1)
        clear hK HC BK0
        have eK : K = k0 := by rw [← HK.out]; exact folF_no (HH.out.trans HQ.out)
        subst eK
        go_wp2
        first | exact LZ | exact tail _ _ _ _ _ _ _ _ _ _ _ _ _ _ _ _ _ _ _ _ _ _ _ _ _ LZ
      | true =>
        go_region_held3 (fun W => Below w2.heap.size w2 W ∧ W.cell? ⟨w.heap.size, 0, none⟩ = some (.slice (some ⟨b0, off, none⟩) n cap) ∧ W.cell? ⟨w.heap.size, 1, none⟩ = some (.int .i64 k0) ∧ W.cell? ⟨w.heap.size, 2, none⟩ = some (.int .i64 near) ∧ W.cell? ⟨b0, off + k0, none⟩ = some (cx x y))
          (first | (with_reducible exact HC.out _ BK0) | (with_reducible assumption) | (with_reducible exact HC.out _ (bt (And.left (by assumption)) hbw)))
          (first | (go_at_call 58; refine (hfa _).mono ?_; rintro e w_ ⟨rfl, rfl⟩))
        rename_i hK
        have LZ := Lib.hid (L2.out.bel hK.1)
        have z1 := LZ.out.froz (i := 1) (b := w.heap.size) (List.mem_cons_self ..)
        have y1 := LZ.out.cell (i := 1) (b := w.heap.size) (List.mem_cons_self ..) rfl
        clear hK HC BK0 tail
        have LY := LZ.out.putCell (i := 1) (fol_ne1 _) (Nat.le_refl _) (.int .i64 ((k0 : Int) + 1))
        have HY := Lib.hid LY
        clear LY
        go_wp2
        go_step3
        exact ⟨rfl, ⟨k0 + 1, _, _, _, _, _, _, _, _, _, _, _, _, _, _, _, _, _, _, _, _, _, _, _, _, rfl, hlt, Lib.hid (by rw [← folF_yes hlt (HH.out.trans HQ.out)]; exact HK.out), HY⟩⟩
    · have d3 : decide ((k0 : Int) < (n : Int) - 1) = false := by simp; omega
      have wn : IntKind.i64.wrap ((n : Int) - 1) = (n : Int) - 1 := wr6 (by omega)
      have eK : K = k0 := by rw [← HK.out]; exact folF_last hlt
      subst eK
      go_quiet (fail)
      have LZ := Lib.hid (L2.out.drewN nq)
      go_wp2
      first | exact LZ | exact tail _ _ _ _ _ _ _ _ _ _ _ _ _ _ _ _ _ _ _ _ _ _ _ _ _ LZ
  · rintro a_ wJ ⟨k, u36, u37, u38, u39, u40, u41, u42, u43, u44, u45, u46, u47, u48, u49, u50, u51, u52, u53, u54, u55, u56, u57, u58, u59, rfl, hk, HK, HL⟩
    have c0 := HL.out.cell (i := 0) (b := w.heap.size) (List.mem_cons_self ..) rfl
    have c1 := HL.out.cell (i := 1) (b := w.heap.size) (List.mem_cons_self ..) rfl
    have c2 := HL.out.cell (i := 2) (b := w.heap.size) (List.mem_cons_self ..) rfl
    clear hal hmy d0 d1 d2 LL
    go_wp2
    rename_i K0 hK0 K1 hK1
    have tail : ∀ (W : World) (u36 u37 u38 u39 u40 u41 u42 u43 u44 u45 u46 u47 u48 u49 u50 u51 u52 u53 u54 u55 u56 u57 u58 u59 : Value), Hid (LW w 0 [(w.heap.size, 79, #[.slice (some ⟨b0, off, none⟩) n cap, .int .i64 K, .int .i64 near]), (w.heap.size + 1, 79, #[.slice none 0 0, .int .i64 0, .int .i64 0])] W) → K0 { tmps := #[route (some ⟨b0, off, none⟩) n cap k0 near, cx (wd false a) (wd false b), .pointer (some ⟨w.heap.size, 0, none⟩), undef, .complex .f64 0 0, .pointer (some ⟨w.heap.size + 1, 0, none⟩), .int .i64 0, undef, undef, .pointer (some ⟨w.heap.size, 1, none⟩), .int .i64 k0, .bool false, .bool false, .pointer (some ⟨w.heap.size, 1, none⟩), .int .i64 k0, .pointer (some ⟨w.heap.size, 0, none⟩), .slice (some ⟨b0, off, none⟩) n cap, .int .i64 n, .bool false, .bool false, undef, .pointer (some ⟨w.heap.size, 0, none⟩), .slice (some ⟨b0, off, none⟩) n cap, .bool true, .bool false, .bool false, cx (wd false a) (wd false b), .bool true, .bool false, .bool false, .bool false, .pointer (some ⟨w.heap.size, 2, none⟩), .int .i64 near, .bool false, .bool false, undef, u36, u37, u38, u39, u40, u41, u42, u43, u44, u45, u46, u47, u48, u49, u50, u51, u52, u53, u54, u55, u56, u57, u58, u59, undef, undef, undef, undef, undef, undef, undef, undef, undef, undef, undef, undef, undef, undef, undef, undef, undef, undef, undef, undef, undef, undef, undef, undef, undef, undef], defers := [] } W := by
      intro W u36 u37 u38 u39 u40 u41 u42 u43 u44 u45 u46 u47 u48 u49 u50 u51 u52 u53 u54 u55 u56 u57 u58 u59 HL
      refine hK0 _ _ ?_
      clear hK0
      have hcl := clone_any b0 off n cap ((listOf f n).map gval) (by simp [listOf]) (fun u hu => by obtain ⟨p, _, rfl⟩ := List.mem_map.1 hu; rfl) hn W (fun j u hj => pts_cells (HP.out.below HL.out.below) (fun k hk => right_bd (HF.out k hk)) hj)
      have c0 := HL.out.cell (i := 0) (b := w.heap.size) (List.mem_cons_self ..) rfl
      go_wp2_with fail
      refine hcl.mono ?_
      rintro e w3 ⟨v, rfl, hown, hb⟩
      obtain ⟨g, c9, rfl, hg, _, _⟩ := own_cells hown (by omega)
      have L3 := Lib.hid (HL.out.bel hb)
      have hsz := HL.out.size2
      have HO3 := Lib.hid (own_base hown (by omega : w.heap.size ≤ W.heap.size))
      have z0 := L3.out.cell (i := 0) (b := w.heap.size) (List.mem_cons_self ..) rfl
      have z1 := L3.out.froz (i := 0) (b := w.heap.size) (List.mem_cons_self ..)
      have hg2 : w.heap.size + 1 < g := by omega
      have L4 := Lib.hid (L3.out.putCell (i := 0) (fol_ne1 _) (Nat.le_refl _) (.slice (some ⟨g, 0, none⟩) n c9))
      have HO4 := Lib.hid (ownsRow_setCell_other (a := ⟨w.heap.size, 0, none⟩) HO3.out (by simp [Value.ownBlock]; omega) (.slice (some ⟨g, 0, none⟩) n c9))
      have y0 := L4.out.cell (i := 0) (b := w.heap.size) (List.mem_cons_self ..) rfl
      clear hb hown HL hcl c0 L3 HO3 hsz hg
      go_wp2
      clear y0 z0 z1
      go_loopw [7, 8, 67] (fun _ _ i wr => ∃ (j : Nat), j ≤ n ∧ i = .int .i64 j ∧ Hid (wr.ownsRow w.heap.size 31 1 (.slice (some ⟨g, 0, none⟩) n c9) n ((listOf f n).map gval)) ∧ Hid (LW w 0 [(w.heap.size, 79, #[.slice (some ⟨g, 0, none⟩) n c9, .int .i64 K, .int .i64 near]), (w.heap.size + 1, 79, #[.slice none 0 0, .int .i64 0, .int .i64 0])] wr)) (fun _ _ i _ => n - (intOf i).toNat)
      case atStart => exact ⟨0, Nat.zero_le _, rfl, HO4, L4⟩
      case round =>
        clear HO4 L4
        obtain ⟨j, hj, rfl, HO, HL⟩ := hrel
        by_cases hlt : j < n
        · have hfj := right_bd (HF.out j hlt)
          have i1 : (0 : Int) ≤ (j : Int) := by omega
          have i2 : (j : Int) < (n : Int) := by omega
          have HC : Hid (∀ W, W.ownsRow w.heap.size 31 1 (.slice (some ⟨g, 0, none⟩) n c9) n ((listOf f n).map gval) ∧ LW w 0 [(w.heap.size, 79, #[.slice (some ⟨g, 0, none⟩) n c9, .int .i64 K, .int .i64 near]), (w.heap.size + 1, 79, #[.slice none 0 0, .int .i64 0, .int .i64 0])] W → (W.ownsRow w.heap.size 31 1 (.slice (some ⟨g, 0, none⟩) n c9) n ((listOf f n).map gval) ∧ LW w 0 [(w.heap.size, 79, #[.slice (some ⟨g, 0, none⟩) n c9, .int .i64 K, .int .i64 near]), (w.heap.size + 1, 79, #[.slice none 0 0, .int .i64 0, .int .i64 0])] W) ∧ W.cell? ⟨w.heap.size, 0, none⟩ = some (.slice (some ⟨g, 0, none⟩) n c9) ∧ W.cell? ⟨g, j, none⟩ = some (cx (wd false (f j).1) (wd false (f j).2)) ∧ W.frozen? ⟨g, j, none⟩ = false) := Lib.hid fun W hI => ⟨hI, hI.2.cell (i := 0) (b := w.heap.size) (List.mem_cons_self ..) rfl, own_pt hI.1 (fun k hk => right_bd (HF.out k hk)) hlt, hI.1.frozenAt j⟩
          have HS : Hid (∀ W, W.ownsRow w.heap.size 31 1 (.slice (some ⟨g, 0, none⟩) n c9) n ((listOf f n).map gval) ∧ LW w 0 [(w.heap.size, 79, #[.slice (some ⟨g, 0, none⟩) n c9, .int .i64 K, .int .i64 near]), (w.heap.size + 1, 79, #[.slice none 0 0, .int .i64 0, .int .i64 0])] W → (W.setCell ⟨g, j, none⟩ (cx (wd false (f j).1) (wd false (f j).2))).ownsRow w.heap.size 31 1 (.slice (some ⟨g, 0, none⟩) n c9) n ((listOf f n).map gval) ∧ LW w 0 [(w.heap.size, 79, #[.slice (some ⟨g, 0, none⟩) n c9, .int .i64 K, .int .i64 near]), (w.heap.size + 1, 79, #[.slice none 0 0, .int .i64 0, .int .i64 0])] (W.setCell ⟨g, j, none⟩ (cx (wd false (f j).1) (wd false (f j).2)))) := Lib.hid fun W hI => ⟨own_same hI.1 (fun k hk => right_bd (HF.out k hk)) hlt, hI.2.setFar (fol_ne2 hg2 _ _ _ _) (by omega) _⟩
          have hpl := nplain_any false false (f j).1 (f j).2 (by omega) (by omega)
          have I0 : wr.drew.ownsRow w.heap.size 31 1 (.slice (some ⟨g, 0, none⟩) n c9) n ((listOf f n).map gval) ∧ LW w 0 [(w.heap.size, 79, #[.slice (some ⟨g, 0, none⟩) n c9, .int .i64 K, .int .i64 near]), (w.heap.size + 1, 79, #[.slice none 0 0, .int .i64 0, .int .i64 0])] wr.drew := ⟨HO.out, HL.out.drew⟩
          have cj := own_pt HO.out (fun k hk => right_bd (HF.out k hk)) hlt
          generalize wd false (f j).1 = x at *
          generalize wd false (f j).2 = y at *
          clear HO HL
          go_wp2
          clear cj
          go_region_held3 (fun W => (W.ownsRow w.heap.size 31 1 (.slice (some ⟨g, 0, none⟩) n c9) n ((listOf f n).map gval) ∧ LW w 0 [(w.heap.size, 79, #[.slice (some ⟨g, 0, none⟩) n c9, .int .i64 K, .int .i64 near]), (w.heap.size + 1, 79, #[.slice none 0 0, .int .i64 0, .int .i64 0])] W) ∧ W.cell? ⟨w.heap.size, 0, none⟩ = some (.slice (some ⟨g, 0, none⟩) n c9) ∧ W.cell? ⟨g, j, none⟩ = some (cx x y) ∧ W.frozen? ⟨g, j, none⟩ = false)
            (first | (with_reducible exact HC.out _ I0) | (with_reducible assumption) | (with_reducible exact HC.out _ (HS.out _ (And.left (by assumption)))) | (exact HC.out _ (HS.out wr.drew I0)))
            (first | (go_at_call 57; refine (hpl _).mono ?_; rintro e w_ ⟨rfl, rfl⟩))
          rename_i hK
          have HO := Lib.hid hK.1.1
          have HL := Lib.hid hK.1.2
          clear hK HC HS I0 hpl
          go_wp2
          go_roundw
          case rel => exact ⟨j + 1, by omega, by go_num, HO, HL⟩
          case measure => simp [intOf]; omega
        · obtain rfl : n = j := by omega
          clear hlt hj
          have HC : Hid (∀ W, W.ownsRow w.heap.size 31 1 (.slice (some ⟨g, 0, none⟩) n c9) n ((listOf f n).map gval) ∧ LW w 0 [(w.heap.size, 79, #[.slice (some ⟨g, 0, none⟩) n c9, .int .i64 K, .int .i64 near])] W ∧ RR (w.heap.size + 1) 3 79 W → (W.ownsRow w.heap.size 31 1 (.slice (some ⟨g, 0, none⟩) n c9) n ((listOf f n).map gval) ∧ LW w 0 [(w.heap.size, 79, #[.slice (some ⟨g, 0, none⟩) n c9, .int .i64 K, .int .i64 near])] W ∧ RR (w.heap.size + 1) 3 79 W) ∧ RR (w.heap.size + 1) 3 79 W ∧ W.cell? ⟨w.heap.size, 0, none⟩ = some (.slice (some ⟨g, 0, none⟩) n c9) ∧ W.cell? ⟨w.heap.size, 1, none⟩ = some (.int .i64 K) ∧ W.cell? ⟨w.heap.size, 2, none⟩ = some (.int .i64 near) ∧ W.cell? ⟨g, K, none⟩ = some (cx (wd false (f K).1) (wd false (f K).2))) := Lib.hid fun W hI => ⟨hI, hI.2.2, hI.2.1.cell (i := 0) (b := w.heap.size) (List.mem_cons_self ..) rfl, hI.2.1.cell (i := 1) (b := w.heap.size) (List.mem_cons_self ..) rfl, hI.2.1.cell (i := 2) (b := w.heap.size) (List.mem_cons_self ..) rfl, own_pt hI.1 (fun k hk => right_bd (HF.out k hk)) hKn⟩
          have HS : Hid (∀ W, W.ownsRow w.heap.size 31 1 (.slice (some ⟨g, 0, none⟩) n c9) n ((listOf f n).map gval) ∧ LW w 0 [(w.heap.size, 79, #[.slice (some ⟨g, 0, none⟩) n c9, .int .i64 K, .int .i64 near])] W ∧ RR (w.heap.size + 1) 3 79 W → (W.setRow (w.heap.size + 1) #[.slice (some ⟨g, 0, none⟩) n c9, .int .i64 K, .int .i64 near]).ownsRow w.heap.size 31 1 (.slice (some ⟨g, 0, none⟩) n c9) n ((listOf f n).map gval) ∧ LW w 0 [(w.heap.size, 79, #[.slice (some ⟨g, 0, none⟩) n c9, .int .i64 K, .int .i64 near])] (W.setRow (w.heap.size + 1) #[.slice (some ⟨g, 0, none⟩) n c9, .int .i64 K, .int .i64 near]) ∧ RR (w.heap.size + 1) 3 79 (W.setRow (w.heap.size + 1) #[.slice (some ⟨g, 0, none⟩) n c9, .int .i64 K, .int .i64 near])) := Lib.hid fun W hI => ⟨own_setRow hI.1 (by simp [Value.ownBlock]; omega) _, hI.2.1.setRowFar (fol_ne3 _ _ _) (by omega) _, hI.2.2.setRow _ rfl⟩
          have I0 : wr.drew.ownsRow w.heap.size 31 1 (.slice (some ⟨g, 0, none⟩) n c9) n ((listOf f n).map gval) ∧ LW w 0 [(w.heap.size, 79, #[.slice (some ⟨g, 0, none⟩) n c9, .int .i64 K, .int .i64 near])] wr.drew ∧ RR (w.heap.size + 1) 3 79 wr.drew := ⟨HO.out, LW.one HL.out.drew, HL.out.drew.rr (List.mem_cons_of_mem _ (List.mem_cons_self ..))⟩
          have i1 : (0 : Int) ≤ (K : Int) := by omega
          have i2 : (K : Int) < (n : Int) := by omega
          have LF := Lib.hid (LW.putRow HL.out.drew.swap (fol_ne3 _ _ _) (by omega) #[.slice (some ⟨g, 0, none⟩) n c9, .int .i64 K, .int .i64 near])
          clear HO HL
          go_wp2
          go_region_held3 (fun W => (W.ownsRow w.heap.size 31 1 (.slice (some ⟨g, 0, none⟩) n c9) n ((listOf f n).map gval) ∧ LW w 0 [(w.heap.size, 79, #[.slice (some ⟨g, 0, none⟩) n c9, .int .i64 K, .int .i64 near])] W ∧ RR (w.heap.size + 1) 3 79 W) ∧ RR (w.heap.size + 1) 3 79 W ∧ W.cell? ⟨w.heap.size, 0, none⟩ = some (.slice (some ⟨g, 0, none⟩) n c9) ∧ W.cell? ⟨w.heap.size, 1, none⟩ = some (.int .i64 K) ∧ W.cell? ⟨w.heap.size, 2, none⟩ = some (.int .i64 near) ∧ W.cell? ⟨g, K, none⟩ = some (cx (wd false (f K).1) (wd false (f K).2)))
            (first | (with_reducible exact HC.out _ I0) | (with_reducible assumption) | (with_reducible exact HC.out _ (HS.out _ (And.left (by assumption)))) | (exact HC.out _ (HS.out wr.drew I0)))
            (fail)
          rename_i hK
          have HO := Lib.hid hK.1.1
          clear hK HC HS I0
          go_wp2
          simp only [Exit.jump]
          exact fol_end LF.out rfl rfl rfl ⟨_, rfl, HO.out, LF.out.below⟩
    clear hK0
    by_cases hlt : k + 1 < n
    · obtain ⟨_, _, e_, hbl, ck⟩ := HP.out k (by omega)
      cases e_
      have ck2 := (HL.out.below.cell (p := ⟨b0, off + k, none⟩) hbl).trans ck
      have d3 : decide ((k : Int) < (n : Int) - 1) = true := by simp; omega
      have wn : IntKind.i64.wrap ((n : Int) - 1) = (n : Int) - 1 := wr6 (by omega)
      have wk : IntKind.i64.wrap ((k : Int) + 1) = (k : Int) + 1 := wr6 (by omega)
      have bk := right_bd (HF.out k (by omega))
      have hfa := far_any false false false false (f k).1 (f k).2 a b bk.1 bk.2 HZB.out.1 HZB.out.2
      have HH : Hid (nearF f near a b k = decide (distF (f k).1 (f k).2 a b ≤ near)) := Lib.hid rfl
      have i5 : (0 : Int) ≤ (k : Int) := by omega
      have i6 : (k : Int) < (n : Int) := by omega
      have HC : Hid (∀ W, Below wJ.heap.size wJ W → Below wJ.heap.size wJ W ∧ W.cell? ⟨w.heap.size, 0, none⟩ = some (.slice (some ⟨b0, off, none⟩) n cap) ∧ W.cell? ⟨w.heap.size, 1, none⟩ = some (.int .i64 k) ∧ W.cell? ⟨w.heap.size, 2, none⟩ = some (.int .i64 near) ∧ W.cell? ⟨b0, off + k, none⟩ = some (cx (wd false (f k).1) (wd false (f k).2))) := Lib.hid fun W hW => by
        have LL := HL.out.bel hW
        exact ⟨hW, LL.cell (i := 0) (b := w.heap.size) (List.mem_cons_self ..) rfl, LL.cell (i := 1) (b := w.heap.size) (List.mem_cons_self ..) rfl, LL.cell (i := 2) (b := w.heap.size) (List.mem_cons_self ..) rfl, (LL.below.cell (p := ⟨b0, off + k, none⟩) hbl).trans ck⟩
      have BK0 := (Below.refl wJ.heap.size wJ).drew
      generalize distF (f k).1 (f k).2 a b = D at *
      generalize wd false (f k).1 = x at *
      generalize wd false (f k).2 = y at *
      clear ck bk ck2
      obtain ⟨q, hq⟩ : ∃ q, decide (D ≤ near) = q := ⟨_, rfl⟩
      have HQ := Lib.hid hq
      cases q with
      | false =>
        go_region_held3 (fun W => Below wJ.heap.size wJ W ∧ W.cell? ⟨w.heap.size, 0, none⟩ = some (.slice (some ⟨b0, off, none⟩) n cap) ∧ W.cell? ⟨w.heap.size, 1, none⟩ = some (.int .i64 k) ∧ W.cell? ⟨w.heap.size, 2, none⟩ = some (.int .i64 near) ∧ W.cell? ⟨b0, off + k, none⟩ = some (cx x y))
          (first | (with_reducible exact HC.out _ BK0) | (with_reducible assumption) | (with_reducible exact HC.out _ (bt (And.left (by assumption)) hbw)))
          (first | (go_at_call 58; refine (hfa _).mono ?_; rintro e w_ ⟨rfl, rfl⟩))
        rename_i hK
        have LZ := Lib.hid (HL.out.bel hK.1)
        clear hK HC BK0
        have eK : K = k := by rw [← HK.out]; exact folF_no (HH.out.trans HQ.out)
        subst eK
        go_wp2
        first | exact LZ | exact tail _ _ _ _ _ _ _ _ _ _ _ _ _ _ _ _ _ _ _ _ _ _ _ _ _ LZ
      | true =>
        go_region_held3 (fun W => Below wJ.heap.size wJ W ∧ W.cell? ⟨w.heap.size, 0, none⟩ = some (.slice (some ⟨b0, off, none⟩) n cap) ∧ W.cell? ⟨w.heap.size, 1, none⟩ = some (.int .i64 k) ∧ W.cell? ⟨w.heap.size, 2, none⟩ = some (.int .i64 near) ∧ W.cell? ⟨b0, off + k, none⟩ = some (cx x y))
          (first | (with_reducible exact HC.out _ BK0) | (with_reducible assumption) | (with_reducible exact HC.out _ (bt (And.left (by assumption)) hbw)))
          (first | (go_at_call 58; refine (hfa _).mono ?_; rintro e w_ ⟨rfl, rfl⟩))
        rename_i hK
        have LZ := Lib.hid (HL.out.bel hK.1)
        have z1 := LZ.out.froz (i := 1) (b := w.heap.size) (List.mem_cons_self ..)
        have y1 := LZ.out.cell (i := 1) (b := w.heap.size) (List.mem_cons_self ..) rfl
        clear hK HC BK0 tail
        have LY := LZ.out.putCell (i := 1) (fol_ne1 _) (Nat.le_refl _) (.int .i64 ((k : Int) + 1))
        have HY := Lib.hid LY
        clear LY
        go_wp2
        go_step3
        refine ⟨rfl, ⟨k + 1, _, _, _, _, _, _, _, _, _, _, _, _, _, _, _, _, _, _, _, _, _, _, _, _, rfl, hlt, Lib.hid (by rw [← folF_yes hlt (HH.out.trans HQ.out)]; exact HK.out), HY⟩, ?_⟩
        have ya : wJ.cell? ⟨w.heap.size, 1, none⟩ = some (.int .i64 (k : Int)) := HL.out.cell (i := 1) (b := w.heap.size) (List.mem_cons_self ..) rfl
        have yb : ((wJ.setCell ⟨w.heap.size, 1, none⟩ (.int .i64 ((k : Int) + 1))).drew).cell? ⟨w.heap.size, 1, none⟩ = some (.int .i64 ((k : Int) + 1)) := HY.out.cell (i := 1) (b := w.heap.size) (List.mem_cons_self ..) rfl
        rw [ya, yb]
        show n - ((k : Int) + 1).toNat < n - (k : Int).toNat
        omega
    · have d3 : decide ((k : Int) < (n : Int) - 1) = false := by simp; omega
      have wn : IntKind.i64.wrap ((n : Int) - 1) = (n : Int) - 1 := wr6 (by omega)
      have eK : K = k := by rw [← HK.out]; exact folF_last hlt
      subst eK
      go_quiet (fail)
      have LZ := Lib.hid (HL.out.drewN nq)
      go_wp2
      first | exact LZ | exact tail _ _ _ _ _ _ _ _ _ _ _ _ _ _ _ _ _ _ _ _ _ _ _ _ _ LZ
end Go.Proofs.Ytbgllbjkmjlipaa
