/- aileronref02.Join; bits.Split and aileronref02.Split. -/
import Derived.Test.YtlchbjocemegbaaJ
namespace Go.Proofs.Ytlchbjocemegbaa
open Go.RowKit Go.Shelf
attribute [local go_sem ↓] Go.wp_at_zero Go.wp_at_succ

theorem keep4 {w1 : World} {g p q b o : Nat} {v0 v1 v2 : Value} {W W' : World} (h : W.cell? ⟨g, p, none⟩ = some v0 ∧ W.cell? ⟨g, q, none⟩ = some v1 ∧ W.cell? ⟨b, o, none⟩ = some v2 ∧ Below w1.heap.size w1 W ∧ g < W.heap.size ∧ b < W.heap.size ∧ w1.heap.size ≤ W.heap.size) (hb : Below W.heap.size W W') :
    W'.cell? ⟨g, p, none⟩ = some v0 ∧ W'.cell? ⟨g, q, none⟩ = some v1 ∧ W'.cell? ⟨b, o, none⟩ = some v2 ∧ Below w1.heap.size w1 W' ∧ g < W'.heap.size ∧ b < W'.heap.size ∧ w1.heap.size ≤ W'.heap.size := by
  obtain ⟨h0, h1, h2, h3, h4, h5, h6⟩ := h
  have := hb.size
  exact ⟨(hb.cell (p := ⟨g, p, none⟩) h4).trans h0, (hb.cell (p := ⟨g, q, none⟩) h4).trans h1, (hb.cell (p := ⟨b, o, none⟩) h5).trans h2, h3.trans (hb.mono h6), by omega, by omega, by omega⟩

set_option maxRecDepth 100000 in
set_option maxHeartbeats 2000000 in
theorem rjoin_any (A X : Option Addr) (len cap m cx : Nat) (zs : List Int) (xs : List Nat) (hlen : len ≤ 80) (hm : m ≤ 9223372036854775807) (hxs : ∀ y ∈ xs, y < 18446744073709551616) (w : World) (hN : Nums w w.heap.size A len zs) (hX : Wrds w w.heap.size X m xs) :
    Calls Try.prog 29 #[.slice A len cap, .slice X m cx] w (JoinPost w zs xs) := by
  by_cases c0 : (rowGo 0 zs).2 = 0
  · have hc0 : ((rowGo 0 zs).2 != 0) = false := by simp [bne, c0]
    have HC := Lib.hid c0
    have HF := Lib.hid (fieldsOf_ok zs)
    have h64 := fieldsOf_len zs
    go_enter Try.func29, Try.ntmps29
    go_wp2_with fail
    refine (rrow_any A len cap zs hlen _ hN).mono ?_
    rintro e w1 ⟨v, rfl, hown, hb1⟩
    obtain ⟨hfl, A1, cap1, rfl, hcell⟩ := flds_of_own hown
    have HX1 := Lib.hid (hX.below hb1)
    have HCL := Lib.hid hcell
    clear hX hN hown hcell hfl c0
    by_cases c1 : m = (fieldsOf zs).length
    · subst c1
      have hd : ((fieldsOf zs).length != (fieldsOf zs).length) = false := by simp [bne]
      go_wp2_with fail
      go_loopw [8, 9] (fun v i wr => ∃ k y : Nat, k ≤ (fieldsOf zs).length ∧ y < 18446744073709551616 ∧ i = .int .i64 k ∧ v = .int .u64 y ∧ Hid (joinF zs xs = joinGo ((fieldsOf zs).drop k) (xs.drop k) y) ∧ Below w1.heap.size w1 wr) (fun _ i _ => (fieldsOf zs).length - (intOf i).toNat)
      case atStart => exact ⟨0, 0, by omega, by omega, rfl, rfl, by unfold Hid joinF; rw [if_neg (by rw [HC.out]; simp), if_neg (by rw [HX1.out.1]; simp)]; simp, Below.refl _ _⟩
      case round =>
        obtain ⟨k, y, hk, hy, rfl, rfl, HJ, hb⟩ := hrel
        by_cases hlt : k < (fieldsOf zs).length
        · obtain ⟨g, rfl, hg, hcA, hcL⟩ := HCL.out k hlt
          obtain ⟨b, off, rfl, hbl, hcx0⟩ := HX1.out.2 k hlt
          have hs1 := hb1.size
          have hcx := (hb.cell (p := ⟨b, off + k, none⟩) (show b < w1.heap.size by omega)).trans hcx0
          have hcA' := (hb.cell (p := ⟨g, k * 2, none⟩) hg).trans hcA
          have hcL' := (hb.cell (p := ⟨g, k * 2 + 1, none⟩) hg).trans hcL
          have hok := getD_ok HF.out hlt
          have HS := Lib.hid (HJ.out.trans (joinGo_step hlt (by rw [HX1.out.1]; exact hlt)))
          have hzx : xs[k]?.getD 0 < 18446744073709551616 := by
            have : k < xs.length := by rw [HX1.out.1]; exact hlt
            simp [this]; exact hxs _ (List.getElem_mem _)
          clear hcA hcL hcx0 HJ
          generalize (fieldsOf zs)[k]?.getD (0, 0) = f at hcA' hcL' hok HS
          generalize xs[k]?.getD 0 = z at hcx HS hzx
          obtain ⟨a, l⟩ := f
          dsimp only at hcA' hcL' HS
          have hbs : b < wr.heap.size := by have := hb.size; omega
          have hgs : g < wr.heap.size := by have := hb.size; omega
          have hws := hb.size
          have hmay := ok_may hok
          have hmx := ok_max hok
          have k0 : 0 ≤ (k : Int) := by omega
          have k1 : (k : Int) < ((fieldsOf zs).length : Int) := by omega
          have HK : Hid (wr.drew.cell? ⟨g, k * 2, none⟩ = some (.int .i64 a) ∧ wr.drew.cell? ⟨g, k * 2 + 1, none⟩ = some (.int .i64 l) ∧ wr.drew.cell? ⟨b, off + k, none⟩ = some (.int .u64 z) ∧ Below w1.heap.size w1 wr.drew ∧ g < wr.drew.heap.size ∧ b < wr.drew.heap.size ∧ w1.heap.size ≤ wr.drew.heap.size) := ⟨hcA', hcL', hcx, hb.drew, hgs, hbs, hws⟩
          by_cases c2 : z ≤ maxW l
          · have HT := Lib.hid (HS.out.trans (if_pos c2))
            have d2 : decide (maxW l < z) = false := by simpa using c2
            clear HS c2
            go_wp2_with fail
            go_region_held3 (fun w' => w'.cell? ⟨g, k * 2, none⟩ = some (.int .i64 a) ∧ w'.cell? ⟨g, k * 2 + 1, none⟩ = some (.int .i64 l) ∧ w'.cell? ⟨b, off + k, none⟩ = some (.int .u64 z) ∧ Below w1.heap.size w1 w' ∧ g < w'.heap.size ∧ b < w'.heap.size ∧ w1.heap.size ≤ w'.heap.size)
              (first | exact keep4 (by assumption) hbw | exact HK.out)
              (first | (go_at_call 15; refine (rmax_any a l _).mono ?_; rintro e w2 ⟨rfl, hbw⟩))
            have hs2 : w2.cell? ⟨g, k * 2, none⟩ = some (.int .i64 a) ∧ w2.cell? ⟨g, k * 2 + 1, none⟩ = some (.int .i64 l) ∧ w2.cell? ⟨b, off + k, none⟩ = some (.int .u64 z) ∧ Below w1.heap.size w1 w2 ∧ g < w2.heap.size ∧ b < w2.heap.size ∧ w1.heap.size ≤ w2.heap.size := by assumption
            have HS2 : Hid (w2.drew.cell? ⟨g, k * 2, none⟩ = some (.int .i64 a) ∧ w2.drew.cell? ⟨g, k * 2 + 1, none⟩ = some (.int .i64 l) ∧ w2.drew.cell? ⟨b, off + k, none⟩ = some (.int .u64 z) ∧ Below w1.heap.size w1 w2.drew ∧ g < w2.drew.heap.size ∧ b < w2.drew.heap.size ∧ w1.heap.size ≤ w2.drew.heap.size) := ⟨hs2.1, hs2.2.1, hs2.2.2.1, hs2.2.2.2.1.drew, hs2.2.2.2.2⟩
            clear hs2
            have hok2 := hok
            unfold okF at hok2
            dsimp only at hok2
            go_wp2_with fail
            clear hmx d2
            go_region_held3 (fun w' => w'.cell? ⟨g, k * 2, none⟩ = some (.int .i64 a) ∧ w'.cell? ⟨g, k * 2 + 1, none⟩ = some (.int .i64 l) ∧ w'.cell? ⟨b, off + k, none⟩ = some (.int .u64 z) ∧ Below w1.heap.size w1 w' ∧ g < w'.heap.size ∧ b < w'.heap.size ∧ w1.heap.size ≤ w'.heap.size)
              (first | exact keep4 (by assumption) hbw2 | exact HS2.out)
              (first | (go_at_call 36; refine (rset_any a l hok2.1 hok2.2.1 hok2.2.2.1 hok2.2.2.2 y z hy hzx _).mono ?_; rintro e w3 ⟨rfl, hbw2⟩))
            obtain ⟨_, _, _, hb3, _⟩ : w3.cell? ⟨g, k * 2, none⟩ = some (.int .i64 a) ∧ w3.cell? ⟨g, k * 2 + 1, none⟩ = some (.int .i64 l) ∧ w3.cell? ⟨b, off + k, none⟩ = some (.int .u64 z) ∧ Below w1.heap.size w1 w3 ∧ g < w3.heap.size ∧ b < w3.heap.size ∧ w1.heap.size ≤ w3.heap.size := by assumption
            go_wp2
            go_roundw
            case rel => exact ⟨k + 1, setW a l y z, by omega, setW_lt _ _ _ _, by go_num, by go_num, HT, hb3⟩
            case measure => simp [intOf]; omega
          · have HT := Lib.hid (HS.out.trans (if_neg c2))
            have d2 : decide (maxW l < z) = true := by simp <;> omega
            clear HS c2
            go_wp2_with fail
            go_region_held3 (fun w' => w'.cell? ⟨g, k * 2, none⟩ = some (.int .i64 a) ∧ w'.cell? ⟨g, k * 2 + 1, none⟩ = some (.int .i64 l) ∧ w'.cell? ⟨b, off + k, none⟩ = some (.int .u64 z) ∧ Below w1.heap.size w1 w' ∧ g < w'.heap.size ∧ b < w'.heap.size ∧ w1.heap.size ≤ w'.heap.size)
              (first | exact keep4 (by assumption) hbw | exact HK.out)
              (first | (go_at_call 15; refine (rmax_any a l _).mono ?_; rintro e w2 ⟨rfl, hbw⟩))
            obtain ⟨_, _, _, hb2, _⟩ : w2.cell? ⟨g, k * 2, none⟩ = some (.int .i64 a) ∧ w2.cell? ⟨g, k * 2 + 1, none⟩ = some (.int .i64 l) ∧ w2.cell? ⟨b, off + k, none⟩ = some (.int .u64 z) ∧ Below w1.heap.size w1 w2 ∧ g < w2.heap.size ∧ b < w2.heap.size ∧ w1.heap.size ≤ w2.heap.size := by assumption
            go_wp2
            go_ret2
            exact join_post HT.out (hb1.trans (hb2.mono hb1.size))
        · have HT := Lib.hid (HJ.out.trans (joinGo_end (by omega)))
          have hd2 : decide (k < (fieldsOf zs).length) = false := by simpa using hlt
          go_wp2
          go_ret2
          exact join_post HT.out (hb1.trans (hb.mono hb1.size))
    · have HT := Lib.hid (show joinF zs xs = (0, 17) by unfold joinF; rw [if_neg (by rw [HC.out]; simp), if_pos (by rw [HX1.out.1]; exact c1)])
      have hd : (m != (fieldsOf zs).length) = true := by simp [bne, c1]
      have hd2 : ((m : Int) != ((fieldsOf zs).length : Int)) = true := by simp [bne]; omega
      go_wp2
      go_ret2
      exact join_post HT.out hb1
  · have hc0 : ((rowGo 0 zs).2 != 0) = true := by simp [bne, c0]
    have HT := Lib.hid (show joinF zs xs = (0, (rowGo 0 zs).2) by unfold joinF; rw [if_pos c0])
    clear c0
    go_enter Try.func29, Try.ntmps29
    go_wp2_with fail
    refine (rrow_any A len cap zs hlen _ hN).mono ?_
    rintro e w1 ⟨v, rfl, hown, hb1⟩
    go_wp2
    go_ret2
    exact join_post HT.out hb1
end Go.Proofs.Ytlchbjocemegbaa
