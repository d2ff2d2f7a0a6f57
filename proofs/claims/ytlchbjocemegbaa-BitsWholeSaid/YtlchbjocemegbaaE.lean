/- The walk of BitsWhole: true for every input. -/
import Derived.Test.YtlchbjocemegbaaU
import Derived.Test.YtlchbjocemegbaaV
namespace Go.Proofs.Ytlchbjocemegbaa
open Go.RowKit Go.Shelf
attribute [local go_sem ↓] Go.wp_at_zero Go.wp_at_succ

theorem splitF_lt (zs : List Int) (x : Nat) : ∀ y ∈ splitF zs x, y < 18446744073709551616 := by
  intro y hy
  obtain ⟨f, _, rfl⟩ := List.mem_map.1 hy
  exact getW_lt _ _ _
theorem splitF_len (zs : List Int) (x : Nat) : (splitF zs x).length ≤ 64 := by
  unfold splitF getsOf; rw [List.length_map]; exact fieldsOf_len zs
theorem sum_take {zs : List Int} {k : Nat} (h : k < zs.length) : (zs.take (k + 1)).sum = (zs.take k).sum + zs[k]?.getD 0 := by
  rw [List.take_succ_eq_append_getElem h, List.sum_append]; simp [List.getElem?_eq_getElem h]
theorem sum_bd {zs : List Int} (h : ∀ z ∈ zs, 1 ≤ z ∧ z ≤ 64) : 0 ≤ zs.sum ∧ zs.sum ≤ 64 * zs.length := by
  induction zs with
  | nil => simp
  | cons z r ih =>
    have h1 := h z (by simp)
    have h2 := ih (fun y hy => h y (by simp [hy]))
    rw [List.sum_cons, List.length_cons]
    omega
theorem getD_mem {zs : List Int} {k : Nat} (h : k < zs.length) : zs[k]?.getD 0 ∈ zs := by simp [h]
theorem mask_int (x e : Nat) (hx : x < 18446744073709551616) (he : e < 64) : bits .and .u64 (x : Int) (IntKind.u64.wrap (IntKind.u64.wrap (2 ^ e) - 1)) = ((x &&& (2 ^ e - 1) : Nat) : Int) := by
  have h1 : 2 ^ e < 18446744073709551616 := Nat.pow_lt_pow_right (a := 2) (by decide) he
  have h2 : 1 ≤ 2 ^ e := Nat.one_le_two_pow
  have e1 : IntKind.u64.wrap (2 ^ e) = ((2 ^ e : Nat) : Int) := by rw [cast_pow, IntKind.wrap_u64]; omega
  have e2 : IntKind.u64.wrap (((2 ^ e : Nat) : Int) - 1) = ((2 ^ e - 1 : Nat) : Int) := by rw [IntKind.wrap_u64]; omega
  rw [e1, e2, u64_and_nat _ _ hx (by omega)]
theorem joinF_bad {zs : List Int} {xs : List Nat} (h : (rowGo 0 zs).2 ≠ 0) : joinF zs xs = (0, (rowGo 0 zs).2) := by unfold joinF; rw [if_pos h]
theorem splitF_bad {zs : List Int} (x : Nat) (h : (rowGo 0 zs).2 ≠ 0) : splitF zs x = [] := by unfold splitF fieldsOf; rw [if_neg h]; rfl

set_option maxRecDepth 100000 in
set_option maxHeartbeats 4000000 in
theorem whole_big1 (A X : Option Addr) (n cap m cx x : Nat) (h80 : ¬ n ≤ 80) (w : World) :
    Calls Try.prog 10 #[.slice A n cap, .slice X m cx, .int .u64 x] w fun e w' => e = .returned (.bool true) ∧ Below w.heap.size w w' := by
  have hd : decide ((n : Int) ≤ 80) = false := by simp <;> omega
  go_enter Try.func10, Try.ntmps10
  go_wp2_with fail
  refine (few_any _ _ _ _).mono ?_
  rintro e w1 ⟨rfl, rfl⟩
  go_wp2_with fail
  refine (awake_any _).mono ?_
  rintro e wz ⟨rfl, hbz⟩
  go_wp2
  go_ret
  exact ⟨rfl, hbz⟩

set_option maxRecDepth 100000 in
set_option maxHeartbeats 4000000 in
theorem whole_big2 (A X : Option Addr) (n cap m cx x : Nat) (h80 : n ≤ 80) (hm80 : ¬ m ≤ 80) (w : World) :
    Calls Try.prog 10 #[.slice A n cap, .slice X m cx, .int .u64 x] w fun e w' => e = .returned (.bool true) ∧ Below w.heap.size w w' := by
  have hd : decide ((n : Int) ≤ 80) = true := by simp <;> omega
  have hd2 : decide (80 < (m : Int)) = true := by simp <;> omega
  go_enter Try.func10, Try.ntmps10
  go_wp2_with fail
  refine (few_any _ _ _ _).mono ?_
  rintro e w1 ⟨rfl, rfl⟩
  go_wp2_with fail
  refine (awake_any _).mono ?_
  rintro e wz ⟨rfl, hbz⟩
  go_wp2
  go_ret
  exact ⟨rfl, hbz⟩

set_option maxRecDepth 100000 in
set_option maxHeartbeats 4000000 in
theorem whole_bad (A X : Option Addr) (n cap m cx : Nat) (zs : List Int) (xs : List Nat) (x : Nat) (hxs : ∀ y ∈ xs, y < 18446744073709551616) (hx : x < 18446744073709551616) (w : World) (hN : Nums w w.heap.size A n zs) (hX : Wrds w w.heap.size X m xs) (h80 : n ≤ 80) (hm80 : m ≤ 80) (c : Int) (hc : (rowGo 0 zs).2 = c) (hc0 : c ≠ 0) :
    Calls Try.prog 10 #[.slice A n cap, .slice X m cx, .int .u64 x] w fun e w' => e = .returned (.bool true) ∧ Below w.heap.size w w' := by
  have hd : decide ((n : Int) ≤ 80) = true := by simp <;> omega
  have hd2 : decide (80 < (m : Int)) = false := by simp <;> omega
  have e1 : (c == 0) = false := by simpa using hc0
  have e2 : (c != 0) = true := by simp [bne, e1]
  have e3 : (c == c) = true := by simp
  have hj : joinF zs xs = (0, c) := by rw [joinF_bad (by rw [hc]; exact hc0), hc]
  have hsp : splitF zs x = [] := splitF_bad x (by rw [hc]; exact hc0)
  go_enter Try.func10, Try.ntmps10
  go_wp2_with fail
  refine (few_any _ _ _ _).mono ?_
  rintro e w1 ⟨rfl, rfl⟩
  go_wp2_with fail
  refine (join_any A X n cap m cx zs xs h80 (by omega) hxs w hN hX).mono ?_
  rintro e w1 ⟨he, hb1⟩
  rw [hj] at he
  subst he
  have hb01 := hb1
  have hs1 := hb01.size
  go_wp2_with fail
  refine (split_any A n cap zs h80 x hx w1 ((hN.below hb01).more hs1)).mono ?_
  rintro e w2 ⟨v, he, hown, hb2⟩
  rw [hc] at he
  subst he
  rw [hsp] at hown
  obtain ⟨C, cc, rfl, _⟩ := wrds_of_own hown
  clear hown
  have hb02 := hb01.trans (hb2.mono hs1)
  have hs2 := hb02.size
  go_wp2_with fail
  refine (awake_any _).mono ?_
  rintro e wz ⟨rfl, hbz⟩
  have hb0z := hb02.trans (hbz.mono hs2)
  go_wp2
  go_ret
  exact ⟨rfl, hb0z⟩

set_option maxRecDepth 100000 in
set_option maxHeartbeats 4000000 in
theorem whole_okLt (A X : Option Addr) (n cap m cx : Nat) (zs : List Int) (xs : List Nat) (x : Nat) (hxs : ∀ y ∈ xs, y < 18446744073709551616) (hx : x < 18446744073709551616) (w : World) (hN : Nums w w.heap.size A n zs) (hX : Wrds w w.heap.size X m xs) (h80 : n ≤ 80) (hm80 : m ≤ 80) (hc : (rowGo 0 zs).2 = 0) (r1 r e : Nat) (c : Int) (hj : joinF zs xs = (r1, c)) (hj2 : joinF zs (splitF zs x) = (r, 0)) (hsum : zs.sum = e) (hz : ∀ z ∈ zs, 1 ≤ z ∧ z ≤ 64) (hc0 : c = 0) (hr1 : r1 < 18446744073709551616) (hsp : splitF zs r1 = xs) (he64 : e < 64) (hmask : x &&& (2 ^ e - 1) = r) :
    Calls Try.prog 10 #[.slice A n cap, .slice X m cx, .int .u64 x] w fun e w' => e = .returned (.bool true) ∧ Below w.heap.size w w' := by
  have hd : decide ((n : Int) ≤ 80) = true := by simp <;> omega
  have hd2 : decide (80 < (m : Int)) = false := by simp <;> omega
  have e1 : (c == 0) = true := by simp [hc0]
  have e2 : ((0 : Int) != 0) = false := by decide
  have e3 : ((0 : Int) == 0) = true := by decide
  have e4 : ((r : Int) == (r : Int)) = true := by simp
  have hd3 : decide (e < 64) = true := by simp <;> omega
  have hd3i : decide ((e : Int) < 64) = true := by simp <;> omega
  have m1 := mask_int x e hx he64
  rw [hmask] at m1
  have m2 : IntKind.u64.wrap (e : Int) = e := by rw [IntKind.wrap_u64]; omega
  have m3 : 0 ≤ (e : Int) := by omega
  have HZ := Lib.hid hz
  have HS := Lib.hid hsum
  have hnl := hN.1
  clear hz hsum
  go_enter Try.func10, Try.ntmps10
  go_wp2_with fail
  refine (few_any _ _ _ _).mono ?_
  rintro e w1 ⟨rfl, rfl⟩
  go_wp2_with fail
  refine (join_any A X n cap m cx zs xs h80 (by omega) hxs w hN hX).mono ?_
  rintro e' w1 ⟨he, hb1⟩
  rw [hj] at he
  subst he
  have hb01 := hb1
  have hs1 := hb01.size
  go_wp2_with fail
  refine (split_any A n cap zs h80 r1 hr1 w1 ((hN.below hb01).more hs1)).mono ?_
  rintro e' w2 ⟨v, he, hown, hb2⟩
  rw [hc] at he
  subst he
  rw [hsp] at hown
  obtain ⟨C, cc, rfl, hC⟩ := wrds_of_own hown
  clear hown
  have hb02 := hb01.trans (hb2.mono hs1)
  have hs2 := hb02.size
  have hX2 := (hX.below hb02).more hs2
  obtain rfl : m = xs.length := hX.1.symm
  go_wp2_with fail
  refine (words_any X C cx cc xs (by omega) w2 hX2 hC).mono ?_
  rintro e' w3 ⟨rfl, hb3⟩
  have hb03 := hb02.trans (hb3.mono hs2)
  have hs3 := hb03.size
  go_wp2_with fail
  refine (split_any A n cap zs h80 x hx w3 ((hN.below hb03).more hs3)).mono ?_
  rintro e' w4 ⟨v, he, hown, hb4⟩
  rw [hc] at he
  subst he
  obtain ⟨D, cd, rfl, hD⟩ := wrds_of_own hown
  clear hown
  have hb04 := hb03.trans (hb4.mono hs3)
  have hs4 := hb04.size
  have hN4 := (hN.below hb04).more hs4
  have HN4 := Lib.hid hN4
  have HD := Lib.hid hD
  have HX := Lib.hid hX
  clear hN hN4 hD hX
  go_wp2_with fail
  go_loopw [13, 14] (fun v i wr => ∃ k : Nat, ∃ S : Int, k ≤ n ∧ v = .int .i64 S ∧ i = .int .i64 k ∧ 0 ≤ S ∧ S ≤ 64 * k ∧ Hid (S = (zs.take k).sum) ∧ Below w4.heap.size w4 wr) (fun _ i _ => n - (intOf i).toNat)
  case atStart => exact ⟨0, 0, by omega, rfl, rfl, by omega, by omega, by show (0 : Int) = _; simp, Below.refl _ _⟩
  case round =>
    obtain ⟨k, S, hk, rfl, rfl, hS0, hS1, HSk, hb⟩ := hrel
    by_cases hlt : k < n
    · obtain ⟨b, off, rfl, hbl, hcell⟩ := HN4.out.2 k hlt
      have hcell' := (hb.cell (p := ⟨b, off + k, none⟩) hbl).trans hcell
      have hlt' : k < zs.length := by omega
      have hz1 := HZ.out _ (getD_mem hlt')
      have HT := Lib.hid (sum_take hlt')
      clear hcell
      generalize zs[k]?.getD 0 = z at hcell' hz1 HT
      have hw : IntKind.i64.wrap (S + z) = S + z := IntWalk.i64_in _ (by omega)
      have hd : decide ((k : Int) < (n : Int)) = true := by simp; omega
      go_wp2
      go_roundw
      case rel => exact ⟨k + 1, S + z, by omega, rfl, by go_num, by omega, by omega, by show S + z = _; rw [HT.out, HSk.out], hb⟩
      case measure => simp [intOf]; omega
    · obtain rfl : k = n := by omega
      have hd : decide (k < k) = false := by simp
      obtain rfl : S = (e : Int) := by have := HSk.out; rw [List.take_of_length_le (by omega)] at this; rw [this]; exact HS.out
      have hb04r := hb04.trans (hb.mono hs4)
      have hs4r := hb04r.size
      have hN5 := HN4.out.below hb
      have hD5 := HD.out.below hb
      go_wp2_with fail
      refine (join_any A D k cap _ cd zs (splitF zs x) h80 (by have := splitF_len zs x; omega) (splitF_lt zs x) wr (hN5.more hb.size) (hD5.more hb.size)).mono ?_
      rintro e' w5 ⟨he, hb5⟩
      rw [hj2] at he
      subst he
      have hb05 := hb04r.trans (hb5.mono hs4r)
      have hs5 := hb05.size
      go_wp2_with fail
      refine (awake_any _).mono ?_
      rintro e wz ⟨rfl, hbz⟩
      have hb0z := hb05.trans (hbz.mono hs5)
      go_wp2
      go_ret
      exact ⟨rfl, hb0z⟩

set_option maxRecDepth 100000 in
set_option maxHeartbeats 4000000 in
theorem whole_okGe (A X : Option Addr) (n cap m cx : Nat) (zs : List Int) (xs : List Nat) (x : Nat) (hxs : ∀ y ∈ xs, y < 18446744073709551616) (hx : x < 18446744073709551616) (w : World) (hN : Nums w w.heap.size A n zs) (hX : Wrds w w.heap.size X m xs) (h80 : n ≤ 80) (hm80 : m ≤ 80) (hc : (rowGo 0 zs).2 = 0) (r1 r e : Nat) (c : Int) (hj : joinF zs xs = (r1, c)) (hj2 : joinF zs (splitF zs x) = (r, 0)) (hsum : zs.sum = e) (hz : ∀ z ∈ zs, 1 ≤ z ∧ z ≤ 64) (hc0 : c = 0) (hr1 : r1 < 18446744073709551616) (hsp : splitF zs r1 = xs) (he64 : ¬ e < 64) (hmask : x = r) :
    Calls Try.prog 10 #[.slice A n cap, .slice X m cx, .int .u64 x] w fun e w' => e = .returned (.bool true) ∧ Below w.heap.size w w' := by
  have hd : decide ((n : Int) ≤ 80) = true := by simp <;> omega
  have hd2 : decide (80 < (m : Int)) = false := by simp <;> omega
  have e1 : (c == 0) = true := by simp [hc0]
  have e2 : ((0 : Int) != 0) = false := by decide
  have e3 : ((0 : Int) == 0) = true := by decide
  have e4 : ((r : Int) == (r : Int)) = true := by simp
  have hd3 : decide (e < 64) = false := by simp <;> omega
  have hd3i : decide ((e : Int) < 64) = false := by simp <;> omega
  subst hmask
  have HZ := Lib.hid hz
  have HS := Lib.hid hsum
  have hnl := hN.1
  clear hz hsum
  go_enter Try.func10, Try.ntmps10
  go_wp2_with fail
  refine (few_any _ _ _ _).mono ?_
  rintro e w1 ⟨rfl, rfl⟩
  go_wp2_with fail
  refine (join_any A X n cap m cx zs xs h80 (by omega) hxs w hN hX).mono ?_
  rintro e' w1 ⟨he, hb1⟩
  rw [hj] at he
  subst he
  have hb01 := hb1
  have hs1 := hb01.size
  go_wp2_with fail
  refine (split_any A n cap zs h80 r1 hr1 w1 ((hN.below hb01).more hs1)).mono ?_
  rintro e' w2 ⟨v, he, hown, hb2⟩
  rw [hc] at he
  subst he
  rw [hsp] at hown
  obtain ⟨C, cc, rfl, hC⟩ := wrds_of_own hown
  clear hown
  have hb02 := hb01.trans (hb2.mono hs1)
  have hs2 := hb02.size
  have hX2 := (hX.below hb02).more hs2
  obtain rfl : m = xs.length := hX.1.symm
  go_wp2_with fail
  refine (words_any X C cx cc xs (by omega) w2 hX2 hC).mono ?_
  rintro e' w3 ⟨rfl, hb3⟩
  have hb03 := hb02.trans (hb3.mono hs2)
  have hs3 := hb03.size
  go_wp2_with fail
  refine (split_any A n cap zs h80 x hx w3 ((hN.below hb03).more hs3)).mono ?_
  rintro e' w4 ⟨v, he, hown, hb4⟩
  rw [hc] at he
  subst he
  obtain ⟨D, cd, rfl, hD⟩ := wrds_of_own hown
  clear hown
  have hb04 := hb03.trans (hb4.mono hs3)
  have hs4 := hb04.size
  have hN4 := (hN.below hb04).more hs4
  have HN4 := Lib.hid hN4
  have HD := Lib.hid hD
  have HX := Lib.hid hX
  clear hN hN4 hD hX
  go_wp2_with fail
  go_loopw [13, 14] (fun v i wr => ∃ k : Nat, ∃ S : Int, k ≤ n ∧ v = .int .i64 S ∧ i = .int .i64 k ∧ 0 ≤ S ∧ S ≤ 64 * k ∧ Hid (S = (zs.take k).sum) ∧ Below w4.heap.size w4 wr) (fun _ i _ => n - (intOf i).toNat)
  case atStart => exact ⟨0, 0, by omega, rfl, rfl, by omega, by omega, by show (0 : Int) = _; simp, Below.refl _ _⟩
  case round =>
    obtain ⟨k, S, hk, rfl, rfl, hS0, hS1, HSk, hb⟩ := hrel
    by_cases hlt : k < n
    · obtain ⟨b, off, rfl, hbl, hcell⟩ := HN4.out.2 k hlt
      have hcell' := (hb.cell (p := ⟨b, off + k, none⟩) hbl).trans hcell
      have hlt' : k < zs.length := by omega
      have hz1 := HZ.out _ (getD_mem hlt')
      have HT := Lib.hid (sum_take hlt')
      clear hcell
      generalize zs[k]?.getD 0 = z at hcell' hz1 HT
      have hw : IntKind.i64.wrap (S + z) = S + z := IntWalk.i64_in _ (by omega)
      have hd : decide ((k : Int) < (n : Int)) = true := by simp; omega
      go_wp2
      go_roundw
      case rel => exact ⟨k + 1, S + z, by omega, rfl, by go_num, by omega, by omega, by show S + z = _; rw [HT.out, HSk.out], hb⟩
      case measure => simp [intOf]; omega
    · obtain rfl : k = n := by omega
      have hd : decide (k < k) = false := by simp
      obtain rfl : S = (e : Int) := by have := HSk.out; rw [List.take_of_length_le (by omega)] at this; rw [this]; exact HS.out
      have hb04r := hb04.trans (hb.mono hs4)
      have hs4r := hb04r.size
      have hN5 := HN4.out.below hb
      have hD5 := HD.out.below hb
      go_wp2_with fail
      refine (join_any A D k cap _ cd zs (splitF zs x) h80 (by have := splitF_len zs x; omega) (splitF_lt zs x) wr (hN5.more hb.size) (hD5.more hb.size)).mono ?_
      rintro e' w5 ⟨he, hb5⟩
      rw [hj2] at he
      subst he
      have hb05 := hb04r.trans (hb5.mono hs4r)
      have hs5 := hb05.size
      go_wp2_with fail
      refine (awake_any _).mono ?_
      rintro e wz ⟨rfl, hbz⟩
      have hb0z := hb05.trans (hbz.mono hs5)
      go_wp2
      go_ret
      exact ⟨rfl, hb0z⟩

set_option maxRecDepth 100000 in
set_option maxHeartbeats 4000000 in
theorem whole_noLt (A X : Option Addr) (n cap m cx : Nat) (zs : List Int) (xs : List Nat) (x : Nat) (hxs : ∀ y ∈ xs, y < 18446744073709551616) (hx : x < 18446744073709551616) (w : World) (hN : Nums w w.heap.size A n zs) (hX : Wrds w w.heap.size X m xs) (h80 : n ≤ 80) (hm80 : m ≤ 80) (hc : (rowGo 0 zs).2 = 0) (r1 r e : Nat) (c : Int) (hj : joinF zs xs = (r1, c)) (hj2 : joinF zs (splitF zs x) = (r, 0)) (hsum : zs.sum = e) (hz : ∀ z ∈ zs, 1 ≤ z ∧ z ≤ 64) (hc0 : c ≠ 0) (he64 : e < 64) (hmask : x &&& (2 ^ e - 1) = r) :
    Calls Try.prog 10 #[.slice A n cap, .slice X m cx, .int .u64 x] w fun e w' => e = .returned (.bool true) ∧ Below w.heap.size w w' := by
  have hd : decide ((n : Int) ≤ 80) = true := by simp <;> omega
  have hd2 : decide (80 < (m : Int)) = false := by simp <;> omega
  have e1 : (c == 0) = false := by simp [hc0]
  have e2 : ((0 : Int) != 0) = false := by decide
  have e3 : ((0 : Int) == 0) = true := by decide
  have e4 : ((r : Int) == (r : Int)) = true := by simp
  have hd3 : decide (e < 64) = true := by simp <;> omega
  have hd3i : decide ((e : Int) < 64) = true := by simp <;> omega
  have m1 := mask_int x e hx he64
  rw [hmask] at m1
  have m2 : IntKind.u64.wrap (e : Int) = e := by rw [IntKind.wrap_u64]; omega
  have m3 : 0 ≤ (e : Int) := by omega
  have HZ := Lib.hid hz
  have HS := Lib.hid hsum
  have hnl := hN.1
  clear hz hsum
  go_enter Try.func10, Try.ntmps10
  go_wp2_with fail
  refine (few_any _ _ _ _).mono ?_
  rintro e w1 ⟨rfl, rfl⟩
  go_wp2_with fail
  refine (join_any A X n cap m cx zs xs h80 (by omega) hxs w hN hX).mono ?_
  rintro e' w1 ⟨he, hb1⟩
  rw [hj] at he
  subst he
  have hb01 := hb1
  have hs1 := hb01.size
  go_wp2_with fail
  refine (split_any A n cap zs h80 x hx w1 ((hN.below hb01).more hs1)).mono ?_
  rintro e' w4 ⟨v, he, hown, hb4⟩
  rw [hc] at he
  subst he
  obtain ⟨D, cd, rfl, hD⟩ := wrds_of_own hown
  clear hown
  have hb04 := hb01.trans (hb4.mono hs1)
  have hs4 := hb04.size
  have hN4 := (hN.below hb04).more hs4
  have HN4 := Lib.hid hN4
  have HD := Lib.hid hD
  have HX := Lib.hid hX
  clear hN hN4 hD hX
  go_wp2_with fail
  go_loopw [13, 14] (fun v i wr => ∃ k : Nat, ∃ S : Int, k ≤ n ∧ v = .int .i64 S ∧ i = .int .i64 k ∧ 0 ≤ S ∧ S ≤ 64 * k ∧ Hid (S = (zs.take k).sum) ∧ Below w4.heap.size w4 wr) (fun _ i _ => n - (intOf i).toNat)
  case atStart => exact ⟨0, 0, by omega, rfl, rfl, by omega, by omega, by show (0 : Int) = _; simp, Below.refl _ _⟩
  case round =>
    obtain ⟨k, S, hk, rfl, rfl, hS0, hS1, HSk, hb⟩ := hrel
    by_cases hlt : k < n
    · obtain ⟨b, off, rfl, hbl, hcell⟩ := HN4.out.2 k hlt
      have hcell' := (hb.cell (p := ⟨b, off + k, none⟩) hbl).trans hcell
      have hlt' : k < zs.length := by omega
      have hz1 := HZ.out _ (getD_mem hlt')
      have HT := Lib.hid (sum_take hlt')
      clear hcell
      generalize zs[k]?.getD 0 = z at hcell' hz1 HT
      have hw : IntKind.i64.wrap (S + z) = S + z := IntWalk.i64_in _ (by omega)
      have hd : decide ((k : Int) < (n : Int)) = true := by simp; omega
      go_wp2
      go_roundw
      case rel => exact ⟨k + 1, S + z, by omega, rfl, by go_num, by omega, by omega, by show S + z = _; rw [HT.out, HSk.out], hb⟩
      case measure => simp [intOf]; omega
    · obtain rfl : k = n := by omega
      have hd : decide (k < k) = false := by simp
      obtain rfl : S = (e : Int) := by have := HSk.out; rw [List.take_of_length_le (by omega)] at this; rw [this]; exact HS.out
      have hb04r := hb04.trans (hb.mono hs4)
      have hs4r := hb04r.size
      have hN5 := HN4.out.below hb
      have hD5 := HD.out.below hb
      go_wp2_with fail
      refine (join_any A D k cap _ cd zs (splitF zs x) h80 (by have := splitF_len zs x; omega) (splitF_lt zs x) wr (hN5.more hb.size) (hD5.more hb.size)).mono ?_
      rintro e' w5 ⟨he, hb5⟩
      rw [hj2] at he
      subst he
      have hb05 := hb04r.trans (hb5.mono hs4r)
      have hs5 := hb05.size
      go_wp2_with fail
      refine (awake_any _).mono ?_
      rintro e wz ⟨rfl, hbz⟩
      have hb0z := hb05.trans (hbz.mono hs5)
      go_wp2
      go_ret
      exact ⟨rfl, hb0z⟩

set_option maxRecDepth 100000 in
set_option maxHeartbeats 4000000 in
theorem whole_noGe (A X : Option Addr) (n cap m cx : Nat) (zs : List Int) (xs : List Nat) (x : Nat) (hxs : ∀ y ∈ xs, y < 18446744073709551616) (hx : x < 18446744073709551616) (w : World) (hN : Nums w w.heap.size A n zs) (hX : Wrds w w.heap.size X m xs) (h80 : n ≤ 80) (hm80 : m ≤ 80) (hc : (rowGo 0 zs).2 = 0) (r1 r e : Nat) (c : Int) (hj : joinF zs xs = (r1, c)) (hj2 : joinF zs (splitF zs x) = (r, 0)) (hsum : zs.sum = e) (hz : ∀ z ∈ zs, 1 ≤ z ∧ z ≤ 64) (hc0 : c ≠ 0) (he64 : ¬ e < 64) (hmask : x = r) :
    Calls Try.prog 10 #[.slice A n cap, .slice X m cx, .int .u64 x] w fun e w' => e = .returned (.bool true) ∧ Below w.heap.size w w' := by
  have hd : decide ((n : Int) ≤ 80) = true := by simp <;> omega
  have hd2 : decide (80 < (m : Int)) = false := by simp <;> omega
  have e1 : (c == 0) = false := by simp [hc0]
  have e2 : ((0 : Int) != 0) = false := by decide
  have e3 : ((0 : Int) == 0) = true := by decide
  have e4 : ((r : Int) == (r : Int)) = true := by simp
  have hd3 : decide (e < 64) = false := by simp <;> omega
  have hd3i : decide ((e : Int) < 64) = false := by simp <;> omega
  subst hmask
  have HZ := Lib.hid hz
  have HS := Lib.hid hsum
  have hnl := hN.1
  clear hz hsum
  go_enter Try.func10, Try.ntmps10
  go_wp2_with fail
  refine (few_any _ _ _ _).mono ?_
  rintro e w1 ⟨rfl, rfl⟩
  go_wp2_with fail
  refine (join_any A X n cap m cx zs xs h80 (by omega) hxs w hN hX).mono ?_
  rintro e' w1 ⟨he, hb1⟩
  rw [hj] at he
  subst he
  have hb01 := hb1
  have hs1 := hb01.size
  go_wp2_with fail
  refine (split_any A n cap zs h80 x hx w1 ((hN.below hb01).more hs1)).mono ?_
  rintro e' w4 ⟨v, he, hown, hb4⟩
  rw [hc] at he
  subst he
  obtain ⟨D, cd, rfl, hD⟩ := wrds_of_own hown
  clear hown
  have hb04 := hb01.trans (hb4.mono hs1)
  have hs4 := hb04.size
  have hN4 := (hN.below hb04).more hs4
  have HN4 := Lib.hid hN4
  have HD := Lib.hid hD
  have HX := Lib.hid hX
  clear hN hN4 hD hX
  go_wp2_with fail
  go_loopw [13, 14] (fun v i wr => ∃ k : Nat, ∃ S : Int, k ≤ n ∧ v = .int .i64 S ∧ i = .int .i64 k ∧ 0 ≤ S ∧ S ≤ 64 * k ∧ Hid (S = (zs.take k).sum) ∧ Below w4.heap.size w4 wr) (fun _ i _ => n - (intOf i).toNat)
  case atStart => exact ⟨0, 0, by omega, rfl, rfl, by omega, by omega, by show (0 : Int) = _; simp, Below.refl _ _⟩
  case round =>
    obtain ⟨k, S, hk, rfl, rfl, hS0, hS1, HSk, hb⟩ := hrel
    by_cases hlt : k < n
    · obtain ⟨b, off, rfl, hbl, hcell⟩ := HN4.out.2 k hlt
      have hcell' := (hb.cell (p := ⟨b, off + k, none⟩) hbl).trans hcell
      have hlt' : k < zs.length := by omega
      have hz1 := HZ.out _ (getD_mem hlt')
      have HT := Lib.hid (sum_take hlt')
      clear hcell
      generalize zs[k]?.getD 0 = z at hcell' hz1 HT
      have hw : IntKind.i64.wrap (S + z) = S + z := IntWalk.i64_in _ (by omega)
      have hd : decide ((k : Int) < (n : Int)) = true := by simp; omega
      go_wp2
      go_roundw
      case rel => exact ⟨k + 1, S + z, by omega, rfl, by go_num, by omega, by omega, by show S + z = _; rw [HT.out, HSk.out], hb⟩
      case measure => simp [intOf]; omega
    · obtain rfl : k = n := by omega
      have hd : decide (k < k) = false := by simp
      obtain rfl : S = (e : Int) := by have := HSk.out; rw [List.take_of_length_le (by omega)] at this; rw [this]; exact HS.out
      have hb04r := hb04.trans (hb.mono hs4)
      have hs4r := hb04r.size
      have hN5 := HN4.out.below hb
      have hD5 := HD.out.below hb
      go_wp2_with fail
      refine (join_any A D k cap _ cd zs (splitF zs x) h80 (by have := splitF_len zs x; omega) (splitF_lt zs x) wr (hN5.more hb.size) (hD5.more hb.size)).mono ?_
      rintro e' w5 ⟨he, hb5⟩
      rw [hj2] at he
      subst he
      have hb05 := hb04r.trans (hb5.mono hs4r)
      have hs5 := hb05.size
      go_wp2_with fail
      refine (awake_any _).mono ?_
      rintro e wz ⟨rfl, hbz⟩
      have hb0z := hb05.trans (hbz.mono hs5)
      go_wp2
      go_ret
      exact ⟨rfl, hb0z⟩

theorem bitsWhole_walk (A X : Option Addr) (n cap m cx : Nat) (zs : List Int) (xs : List Nat) (x : Nat) (hxs : ∀ y ∈ xs, y < 18446744073709551616) (hx : x < 18446744073709551616) (w : World) (hN : Nums w w.heap.size A n zs) (hX : Wrds w w.heap.size X m xs) :
    Calls Try.prog 10 #[.slice A n cap, .slice X m cx, .int .u64 x] w fun e w' => e = .returned (.bool true) ∧ Below w.heap.size w w' := by
  by_cases h80 : n ≤ 80
  · by_cases hm80 : m ≤ 80
    · by_cases hc : (rowGo 0 zs).2 = 0
      · obtain ⟨r, e, hj2, hsum, _, hz, hlt, hge⟩ := whole_join x hx hc
        cases hj : joinF zs xs with
        | mk r1 c =>
          by_cases hc0 : c = 0
          · subst hc0
            obtain ⟨hr1, _, hsp⟩ := whole_split hj
            by_cases he : e < 64
            · exact whole_okLt A X n cap m cx zs xs x hxs hx w hN hX h80 hm80 hc r1 r e 0 hj hj2 hsum hz rfl hr1 hsp he (hlt he)
            · exact whole_okGe A X n cap m cx zs xs x hxs hx w hN hX h80 hm80 hc r1 r e 0 hj hj2 hsum hz rfl hr1 hsp he (hge he)
          · by_cases he : e < 64
            · exact whole_noLt A X n cap m cx zs xs x hxs hx w hN hX h80 hm80 hc r1 r e c hj hj2 hsum hz hc0 he (hlt he)
            · exact whole_noGe A X n cap m cx zs xs x hxs hx w hN hX h80 hm80 hc r1 r e c hj hj2 hsum hz hc0 he (hge he)
      · exact whole_bad A X n cap m cx zs xs x hxs hx w hN hX h80 hm80 _ rfl hc
    · exact whole_big2 A X n cap m cx x h80 hm80 w
  · exact whole_big1 A X n cap m cx x h80 w
end Go.Proofs.Ytlchbjocemegbaa
