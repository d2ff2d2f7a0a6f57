/- The walks of BitsRows and BitsJoins: true for every input. -/
import Derived.Test.YtlchbjocemegbaaN
namespace Go.Proofs.Ytlchbjocemegbaa
open Go.RowKit Go.Shelf
attribute [local go_sem ↓] Go.wp_at_zero Go.wp_at_succ

abbrev Four (w : World) (b c o : Nat) (v0 v1 : Value) (W : World) : Prop :=
  W.cell? ⟨b, o * 2, none⟩ = some v0 ∧ W.cell? ⟨b, o * 2 + 1, none⟩ = some v1 ∧ W.cell? ⟨c, o * 2, none⟩ = some v0 ∧ W.cell? ⟨c, o * 2 + 1, none⟩ = some v1 ∧ Below w.heap.size w W ∧ b < W.heap.size ∧ c < W.heap.size ∧ w.heap.size ≤ W.heap.size
theorem keep4b {w W W' : World} {b c o : Nat} {v0 v1 : Value} (h : Four w b c o v0 v1 W) (hb : Below W.heap.size W W') : Four w b c o v0 v1 W' := by
  obtain ⟨h0, h1, h2, h3, h4, h5, h6, h7⟩ := h
  have hs := hb.size
  exact ⟨(hb.cell (p := ⟨b, o * 2, none⟩) h5).trans h0, (hb.cell (p := ⟨b, o * 2 + 1, none⟩) h5).trans h1, (hb.cell (p := ⟨c, o * 2, none⟩) h6).trans h2, (hb.cell (p := ⟨c, o * 2 + 1, none⟩) h6).trans h3, h4.trans (hb.mono h7), by omega, by omega, by omega⟩
theorem four_drew {w W : World} {b c o : Nat} {v0 v1 : Value} (h : Four w b c o v0 v1 W) : Four w b c o v0 v1 W.drew := ⟨h.1, h.2.1, h.2.2.1, h.2.2.2.1, h.2.2.2.2.1.drew, h.2.2.2.2.2⟩

set_option maxRecDepth 100000 in
set_option maxHeartbeats 2000000 in
theorem bitsRows_walk (A : Option Addr) (n cap : Nat) (zs : List Int) (w : World) (hN : Nums w w.heap.size A n zs) :
    Calls Try.prog 6 #[.slice A n cap] w fun e w' => e = .returned (.bool true) ∧ Below w.heap.size w w' := by
  by_cases h80 : n ≤ 80
  · have hd : decide ((n : Int) ≤ 80) = true := by simp <;> omega
    have e1 : ((rowGo 0 zs).2 != (rowGo 0 zs).2) = false := by simp [bne]
    have e2 : (((fieldsOf zs).length : Int) != ((fieldsOf zs).length : Int)) = false := by simp [bne]
    have h64 := fieldsOf_len zs
    go_enter Try.func6, Try.ntmps6
    go_wp2_with fail
    refine (few_any _ _ _ _).mono ?_
    rintro e w1 ⟨rfl, rfl⟩
    go_wp2_with fail
    refine (row_fields A n cap zs h80 w hN).mono ?_
    rintro e w1 ⟨v, rfl, hown, hb1⟩
    obtain ⟨_, A1, c1, rfl, hcell⟩ := flds_of_own hown
    have HC1 := Lib.hid hcell
    clear hcell hown
    go_wp2_with fail
    refine (rrow_any A n cap zs h80 w1 ((hN.below hb1).more hb1.size)).mono ?_
    rintro e w2 ⟨v, rfl, hown, hb2⟩
    obtain ⟨_, A2, c2, rfl, hcell⟩ := flds_of_own hown
    have HC2 := Lib.hid hcell
    clear hcell hown
    have hb02 : Below w.heap.size w w2 := hb1.trans (hb2.mono hb1.size)
    go_wp2_with fail
    go_loopw [7] (fun i wr => ∃ k : Nat, k ≤ (fieldsOf zs).length ∧ i = .int .i64 k ∧ Below w2.heap.size w2 wr) (fun i _ => (fieldsOf zs).length - (intOf i).toNat)
    case atStart => exact ⟨0, by omega, rfl, Below.refl _ _⟩
    case round =>
      obtain ⟨k, hk, rfl, hb⟩ := hrel
      by_cases hlt : k < (fieldsOf zs).length
      · obtain ⟨g, rfl, hg, hc1, hc2⟩ := HC1.out k hlt
        obtain ⟨g2, rfl, hg2, hc3, hc4⟩ := HC2.out k hlt
        have hs2 := hb2.size
        have hs := hb.size
        have F : Four w2 g g2 k _ _ wr := ⟨((hb2.trans (hb.mono hs2)).cell (p := ⟨g, k * 2, none⟩) hg).trans hc1, ((hb2.trans (hb.mono hs2)).cell (p := ⟨g, k * 2 + 1, none⟩) hg).trans hc2,
          (hb.cell (p := ⟨g2, k * 2, none⟩) hg2).trans hc3, (hb.cell (p := ⟨g2, k * 2 + 1, none⟩) hg2).trans hc4, hb, by omega, by omega, by omega⟩
        clear hc1 hc2 hc3 hc4
        generalize (fieldsOf zs)[k]?.getD (0, 0) = f at F
        obtain ⟨a, l⟩ := f
        dsimp only at F
        have e3 : ((a : Int) != (a : Int)) = false := by simp [bne]
        have e4 : ((l : Int) != (l : Int)) = false := by simp [bne]
        have e5 : ((a : Int) == (a : Int)) = true := by simp
        have e6 : ((l : Int) == (l : Int)) = true := by simp
        obtain ⟨f0, f1, f2, f3, _⟩ := id F
        go_wp2_with fail
        go_region_held3 (fun W => W.cell? ⟨g, k * 2, none⟩ = some (.int .i64 a) ∧ W.cell? ⟨g, k * 2 + 1, none⟩ = some (.int .i64 l) ∧ W.cell? ⟨g2, k * 2, none⟩ = some (.int .i64 a) ∧ W.cell? ⟨g2, k * 2 + 1, none⟩ = some (.int .i64 l) ∧ Below w2.heap.size w2 W ∧ g < W.heap.size ∧ g2 < W.heap.size ∧ w2.heap.size ≤ W.heap.size)
          (first | exact keep4b (by assumption) hbw | exact four_drew F)
          (first | (go_at_call 11; refine (plain_any _ _ _).mono ?_; rintro e w1 ⟨rfl, hbw⟩))
        rename_i hHeld
        go_wp2
        go_roundw
        case rel => exact ⟨k + 1, by omega, by go_num, hHeld.2.2.2.2.1⟩
        case measure => simp [intOf]; omega
      · obtain rfl : k = (fieldsOf zs).length := by omega
        have hd : decide ((fieldsOf zs).length < (fieldsOf zs).length) = false := by simp
        go_wp2_with fail
        refine (awake_any _).mono ?_
        rintro e w4 ⟨rfl, hb4⟩
        go_wp2
        go_ret
        have hb' := hb02.trans (hb.mono hb02.size)
        exact ⟨rfl, hb'.trans (hb4.mono hb'.size)⟩
  · have hd : decide ((n : Int) ≤ 80) = false := by simp <;> omega
    go_enter Try.func6, Try.ntmps6
    go_wp2_with fail
    refine (few_any _ _ _ _).mono ?_
    rintro e w1 ⟨rfl, rfl⟩
    go_wp2_with fail
    refine (awake_any _).mono ?_
    rintro e w4 ⟨rfl, hb4⟩
    go_wp2
    go_ret
    exact ⟨rfl, hb4⟩

theorem wrds_of_own {W : World} {base : Nat} {e : TypeId} {v : Value} {xs : List Nat} (h : W.ownsRow base e 1 v xs.length (wordsOf xs)) : ∃ A cap, v = .slice A xs.length cap ∧ Wrds W W.heap.size A xs.length xs := by
  rcases h.2 with ⟨rfl, h0⟩ | ⟨g, cap, cur, rfl, hb, hg, _⟩
  · exact ⟨none, 0, by rw [h0], rfl, fun k hk => by omega⟩
  · have hlt := (Array.getElem?_eq_some_iff.1 hg).1
    refine ⟨_, cap, rfl, rfl, fun k hk => ⟨g, 0, rfl, hlt, ?_⟩⟩
    have hadd : ∀ j, (⟨g, 0, none⟩ : Addr).add j = ⟨g, 0 + j, none⟩ := fun j => by unfold Addr.add; split <;> simp_all
    have hc := h.cells (g := g) rfl k (.int .u64 (xs[k]?.getD 0 : Nat)) (by simp [wordsOf, hk])
    rw [hadd] at hc
    exact hc

set_option maxRecDepth 100000 in
set_option maxHeartbeats 2000000 in
theorem bitsJoins_walk (A X : Option Addr) (n cap m cx : Nat) (zs : List Int) (xs : List Nat) (x : Nat) (hxs : ∀ y ∈ xs, y < 18446744073709551616) (hx : x < 18446744073709551616) (w : World) (hN : Nums w w.heap.size A n zs) (hX : Wrds w w.heap.size X m xs) :
    Calls Try.prog 9 #[.slice A n cap, .slice X m cx, .int .u64 x] w fun e w' => e = .returned (.bool true) ∧ Below w.heap.size w w' := by
  by_cases h80 : n ≤ 80
  · have hd : decide ((n : Int) ≤ 80) = true := by simp <;> omega
    by_cases hm80 : m ≤ 80
    · have hd2 : decide (80 < (m : Int)) = false := by simp <;> omega
      have hlen : (splitF zs x).length ≤ 64 := by
        unfold splitF getsOf; rw [List.length_map]; exact fieldsOf_len zs
      have e1 : (((joinF zs xs).1 : Int) == ((joinF zs xs).1 : Int)) = true := by simp
      have e2 : ((joinF zs xs).2 == (joinF zs xs).2) = true := by simp
      have e3 : ((rowGo 0 zs).2 == (rowGo 0 zs).2) = true := by simp
      go_enter Try.func9, Try.ntmps9
      go_wp2_with fail
      refine (few_any _ _ _ _).mono ?_
      rintro e w1 ⟨rfl, rfl⟩
      go_wp2_with fail
      refine (join_any A X n cap m cx zs xs h80 (by omega) hxs w hN hX).mono ?_
      rintro e w1 ⟨rfl, hb1⟩
      have hs1 := hb1.size
      go_wp2_with fail
      refine (rjoin_any A X n cap m cx zs xs h80 (by omega) hxs w1 ((hN.below hb1).more hs1) ((hX.below hb1).more hs1)).mono ?_
      rintro e w2 ⟨rfl, hb2⟩
      have hb02 := hb1.trans (hb2.mono hs1)
      have hs2 := hb02.size
      go_wp2_with fail
      refine (split_any A n cap zs h80 x hx w2 ((hN.below hb02).more hs2)).mono ?_
      rintro e w3 ⟨v, rfl, hown, hb3⟩
      have hs32 := hb3.size
      have hb03 := hb02.trans (hb3.mono hs2)
      have hs3 := hb03.size
      obtain ⟨C, cc, rfl, hC⟩ := wrds_of_own hown
      clear hown
      go_wp2_with fail
      refine (rsplit_any A n cap zs h80 x hx w3 ((hN.below hb03).more hs3)).mono ?_
      rintro e w4 ⟨v, rfl, hown, hb4⟩
      have hb04 := hb03.trans (hb4.mono hs3)
      have hs4 := hb04.size
      obtain ⟨D, cd, rfl, hD⟩ := wrds_of_own hown
      have hC' := (hC.below hb4).more hb4.size
      clear hown hC
      go_wp2_with fail
      refine (words_any C D cc cd (splitF zs x) (by omega) w4 hC' hD).mono ?_
      rintro e w5 ⟨rfl, hb5⟩
      have hb05 := hb04.trans (hb5.mono hs4)
      have hs5 := hb05.size
      go_wp2_with fail
      refine (awake_any _).mono ?_
      rintro e w6 ⟨rfl, hb6⟩
      go_wp2
      go_ret
      exact ⟨rfl, hb05.trans (hb6.mono hs5)⟩
    · have hd2 : decide (80 < (m : Int)) = true := by simp <;> omega
      go_enter Try.func9, Try.ntmps9
      go_wp2_with fail
      refine (few_any _ _ _ _).mono ?_
      rintro e w1 ⟨rfl, rfl⟩
      go_wp2_with fail
      refine (awake_any _).mono ?_
      rintro e w4 ⟨rfl, hb4⟩
      go_wp2
      go_ret
      exact ⟨rfl, hb4⟩
  · have hd : decide ((n : Int) ≤ 80) = false := by simp <;> omega
    go_enter Try.func9, Try.ntmps9
    go_wp2_with fail
    refine (few_any _ _ _ _).mono ?_
    rintro e w1 ⟨rfl, rfl⟩
    go_wp2_with fail
    refine (awake_any _).mono ?_
    rintro e w4 ⟨rfl, hb4⟩
    go_wp2
    go_ret
    exact ⟨rfl, hb4⟩
end Go.Proofs.Ytlchbjocemegbaa
