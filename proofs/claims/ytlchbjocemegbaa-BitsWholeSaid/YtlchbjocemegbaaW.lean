/- The iterator of package bits ('row'): the fields of lengths, side by side, and how the lengths are wrong. -/
import Derived.RangeFuncBox
import Derived.RangeFuncLeaves
import Derived.RangeFuncCalls
import Derived.Shelf.Abstract
import Derived.WalkKit
import Derived.OwnWalkIn
import Derived.TacticsInMore
import Derived.LoopNIn
import Derived.LoopIn
import Derived.Maps.AppendAt
import Derived.Deep.AppendLies
import Derived.Test.YtlchbjocemegbaaA
namespace Go.Proofs.Ytlchbjocemegbaa
open Go.RowKit Go.Shelf
attribute [local go_sem] Oper.semAt_some

/-- The fields of lengths, from a bit on, and the error: 0, 10 (ErrRange), 12 (ErrLong). -/
def rowGo : Nat → List Int → List (Nat × Nat) × Int
  | _, [] => ([], 0)
  | at_, n :: r => if n < 1 ∨ 64 < n then ([], 10) else if 64 - (at_ : Int) < n then ([], 12) else ((at_, n.toNat) :: (rowGo (at_ + n.toNat) r).1, (rowGo (at_ + n.toNat) r).2)

/-- A slice of numbers that lies below block B. -/
def Nums (W : World) (B : Nat) (A : Option Addr) (n : Nat) (zs : List Int) : Prop :=
  zs.length = n ∧ ∀ k, k < n → ∃ b off, A = some ⟨b, off, none⟩ ∧ b < B ∧ W.cell? ⟨b, off + k, none⟩ = some (.int .i64 (zs[k]?.getD 0))
theorem Nums.below {W W' : World} {B : Nat} {A : Option Addr} {n : Nat} {zs : List Int} (h : Nums W B A n zs) (hb : Below B W W') : Nums W' B A n zs :=
  ⟨h.1, fun k hk => by
    obtain ⟨b, off, e, hlt, hc⟩ := h.2 k hk
    exact ⟨b, off, e, hlt, (hb.cell (p := ⟨b, off + k, none⟩) hlt).trans hc⟩⟩
theorem Nums.more {W : World} {B B' : Nat} {A : Option Addr} {n : Nat} {zs : List Int} (h : Nums W B A n zs) (hb : B ≤ B') : Nums W B' A n zs :=
  ⟨h.1, fun k hk => by
    obtain ⟨b, off, e, hlt, hc⟩ := h.2 k hk
    exact ⟨b, off, e, by omega, hc⟩⟩

theorem drop_cons_getD {zs : List Int} {k : Nat} (h : k < zs.length) : zs.drop k = zs[k]?.getD 0 :: zs.drop (k + 1) := by
  rw [List.drop_eq_getElem_cons h]; simp [h]

theorem rowGo_1 {at_ : Nat} {zs : List Int} {k : Nat} (h : k < zs.length) (h1 : (zs[k]?.getD 0) < 1 ∨ 64 < (zs[k]?.getD 0)) : rowGo at_ (zs.drop k) = ([], 10) := by
  rw [drop_cons_getD h, rowGo, if_pos h1]
theorem rowGo_2 {at_ : Nat} {zs : List Int} {k : Nat} (h : k < zs.length) (h1 : ¬ ((zs[k]?.getD 0) < 1 ∨ 64 < (zs[k]?.getD 0))) (h2 : 64 - (at_ : Int) < (zs[k]?.getD 0)) : rowGo at_ (zs.drop k) = ([], 12) := by
  rw [drop_cons_getD h, rowGo, if_neg h1, if_pos h2]
theorem rowGo_3 {at_ : Nat} {zs : List Int} {k : Nat} (h : k < zs.length) (h1 : ¬ ((zs[k]?.getD 0) < 1 ∨ 64 < (zs[k]?.getD 0))) (h2 : ¬ 64 - (at_ : Int) < (zs[k]?.getD 0)) :
    rowGo at_ (zs.drop k) = ((at_, (zs[k]?.getD 0).toNat) :: (rowGo (at_ + (zs[k]?.getD 0).toNat) (zs.drop (k + 1))).1, (rowGo (at_ + (zs[k]?.getD 0).toNat) (zs.drop (k + 1))).2) := by
  rw [drop_cons_getD h, rowGo, if_neg h1, if_neg h2]

theorem step_app {α : Type} {pre : List α} {x : α} {r : List α} : pre ++ (x :: r) = (pre ++ [x]) ++ r := by simp

/-- How row$1 ends: all fields were handed over; wrong lengths are told. -/
def RowEnd (J : List (Nat × Nat) → World → Prop) (zs : List Int) (B1 : Nat) (e : Ending) (W' : World) : Prop :=
  (∃ v, e = .returned v) ∧ ∃ W2, J (rowGo 0 zs).1 W2 ∧ W' = if (rowGo 0 zs).2 = 0 then W2 else W2.setCell ⟨B1, 0, none⟩ (.int .i64 (rowGo 0 zs).2)
theorem rowEnd_ok {J : List (Nat × Nat) → World → Prop} {zs : List Int} {B1 : Nat} {v : Value} {W' : World} {pre : List (Nat × Nat)} (h : rowGo 0 zs = (pre, 0)) (hj : J pre W') : RowEnd J zs B1 (.returned v) W' :=
  ⟨⟨v, rfl⟩, W', by rw [h]; exact hj, by rw [h]; rfl⟩
theorem rowEnd_bad {J : List (Nat × Nat) → World → Prop} {zs : List Int} {B1 : Nat} {v : Value} {W2 : World} {pre : List (Nat × Nat)} {c : Int} (h : rowGo 0 zs = (pre, c)) (hc : c ≠ 0) (hj : J pre W2) : RowEnd J zs B1 (.returned v) (W2.setCell ⟨B1, 0, none⟩ (.int .i64 c)) :=
  ⟨⟨v, rfl⟩, W2, by rw [h]; exact hj, by rw [h, if_neg hc]⟩

set_option maxRecDepth 100000 in
set_option maxHeartbeats 2000000 in
/-- row$1: every field is handed to yield; wrong lengths are told in the cell that was handed in. -/
theorem row1_in (n : Nat) (hn : 1 ≤ n) (l B1 B2 B3 : Nat) (A : Option Addr) (len cap : Nat) (zs : List Int) (hlen : len ≤ 80) (J : List (Nat × Nat) → World → Prop)
    (hJ : ∀ pre W, J pre W → W.cell? ⟨B2, 0, none⟩ = some (.slice A len cap) ∧ W.cell? ⟨B3, 0, none⟩ = some (.pointer (some ⟨B1, 0, none⟩)) ∧ W.cell? ⟨B1, 0, none⟩ = some (.int .i64 0) ∧ W.frozen? ⟨B1, 0, none⟩ = false ∧ Nums W B1 A len zs)
    (hY : ∀ pre x W, J pre W → (∃ r c, rowGo 0 zs = (pre ++ x :: r, c)) → YieldAt Fence.wide (n - 1) Try.prog l #[fld x.1 x.2] W fun e W' => e = .returned (.bool true) ∧ J (pre ++ [x]) W')
    (W : World) (h0 : J [] W) :
    CallsIn Fence.wide n Try.prog 39 #[.func (.yield l) #[] #[], .pointer (some ⟨B2, 0, none⟩), .pointer (some ⟨B3, 0, none⟩)] W (RowEnd J zs B1) := by
  obtain ⟨hc2, hc3, hc1, hf1, hN⟩ := hJ _ _ h0
  have HJ := Lib.hid hJ
  have HY := Lib.hid hY
  clear hJ hY
  refine callsIn_of_wp Try.func39 rfl trivial ?_ rfl
  simp only [Try.ntmps39, List.size_toArray, List.length_cons, List.length_nil, Nat.reduceAdd, Nat.reduceSub, Array.replicate_succ, Array.replicate_zero, List.push_toArray, List.append_toArray, List.nil_append, List.cons_append]
  gi_wp2
  clear hc2 hc3 hc1 hf1
  have hzl := Lib.hid hN.1
  clear hN
  gi_loopw [4, 9] (fun a i wr => ∃ (k at_ : Nat) (pre : List (Nat × Nat)), k ≤ len ∧ at_ ≤ 64 ∧ a = .int .i64 at_ ∧ i = .int .i64 k ∧ Hid (rowGo 0 zs = (pre ++ (rowGo at_ (zs.drop k)).1, (rowGo at_ (zs.drop k)).2)) ∧ J pre wr)
    (fun _ i _ => len - (intOf i).toNat)
  case atStart => exact ⟨0, 0, [], Nat.zero_le _, by omega, rfl, rfl, by simp [Hid], h0⟩
  case round =>
    obtain ⟨k, at_, pre, hk, hat, rfl, rfl, HG, hJs⟩ := hrel
    obtain ⟨hc2, hc3, hc1, hf1, hN⟩ := HJ.out _ _ hJs
    by_cases hlt : k < len
    · obtain ⟨b, off, rfl, hb, hc⟩ := hN.2 k hlt
      have hzk : k < zs.length := by rw [hN.1]; exact hlt
      have G1 := Lib.hid (rowGo_1 (at_ := at_) hzk)
      have G2 := Lib.hid (rowGo_2 (at_ := at_) hzk)
      have G3 := Lib.hid (rowGo_3 (at_ := at_) hzk)
      generalize zs[k]?.getD 0 = z at hc G1 G2 G3
      clear hzk hN
      by_cases c1 : z < 1 ∨ 64 < z
      · have HE := Lib.hid (HG.out.trans (by rw [G1.out c1, List.append_nil]))
        by_cases c2 : z < 1
        · have d1 : decide (z < 1) = true := by simpa using c2
          clear c1
          gi_wp2
          refine bodyPost_ret (results_none rfl _ _ _) rfl ?_
          exact rowEnd_bad HE.out (by decide) hJs
        · have d1 : decide (z < 1) = false := by simpa using c2
          have d2 : decide (64 < z) = true := by simp <;> omega
          clear c1
          gi_wp2
          refine bodyPost_ret (results_none rfl _ _ _) rfl ?_
          exact rowEnd_bad HE.out (by decide) hJs
      · have d1 : decide (z < 1) = false := by simp <;> omega
        have d2 : decide (64 < z) = false := by simp <;> omega
        by_cases c3 : 64 - (at_ : Int) < z
        · have HE := Lib.hid (HG.out.trans (by rw [G2.out c1 c3, List.append_nil]))
          have d3 : decide (64 - (at_ : Int) < z) = true := by simpa using c3
          clear c1
          gi_wp2
          refine bodyPost_ret (results_none rfl _ _ _) rfl ?_
          exact rowEnd_bad HE.out (by decide) hJs
        · have d3 : decide (64 - (at_ : Int) < z) = false := by simpa using c3
          obtain ⟨m, rfl⟩ : ∃ m : Nat, z = (m : Int) := ⟨z.toNat, by omega⟩
          have hg := G3.out c1 c3
          rw [Int.toNat_natCast] at hg
          have HE := Lib.hid (HG.out.trans (by rw [hg, step_app]))
          obtain ⟨fn, tmps, assign, body, hy, hR⟩ := HY.out _ (at_, m) wr hJs ⟨_, _, HG.out.trans (by rw [hg])⟩
          dsimp only at hy
          clear c1 hg
          gi_wp2
          refine hR.mono ?_
          rintro e W3 ⟨rfl, hJ3⟩
          gi_wp2
          go_roundw
          case rel => exact ⟨k + 1, at_ + m, _, by omega, by omega, by go_num, by go_num, HE, hJ3⟩
          case measure => simp [intOf]; omega
    · have HE := Lib.hid (HG.out.trans (by rw [List.drop_of_length_le (by rw [hN.1]; omega), rowGo, List.append_nil]))
      obtain rfl : k = len := by omega
      gi_wp2
      go_end0
      exact rowEnd_ok HE.out hJs
end Go.Proofs.Ytlchbjocemegbaa
