/- The iterator of package nav ('ways'): from each point to the next one. -/
import Derived.RangeFuncNested
import Derived.RangeFuncBound
import Derived.RangeFuncCalls
import Derived.RangeFuncLeaves
import Derived.Shelf.Abstract
import Derived.WalkKit
import Derived.OwnWalkIn
import Derived.TacticsInMore
import Derived.LoopNIn
import Derived.LoopIn
import Derived.Test.YtbgllbjkmjlipaaM
namespace Go.Proofs.Ytbgllbjkmjlipaa
open Go.RowKit Go.Shelf
attribute [local go_sem] Oper.semAt_some

/-- A point: two whole numbers, each with the sign of its nought. -/
structure Pt where
  s : Bool
  re : Int
  t : Bool
  im : Int
/-- A point that may be. -/
def GP : Type := { p : Pt // p.re.natAbs < 1048576 ∧ p.im.natAbs < 1048576 }
def gp0 : GP := ⟨⟨false, 0, false, 0⟩, by decide⟩
def gx (p : GP) : Nat := wd p.1.s p.1.re
def gy (p : GP) : Nat := wd p.1.t p.1.im
def gat (zs : List GP) (k : Nat) : GP := zs[k]?.getD gp0
def way (zs : List GP) (k : Nat) : GP × GP := (gat zs (if k = 0 then zs.length - 1 else k - 1), gat zs k)
def upto {α : Type} (f : Nat → α) (k : Nat) : List α := (List.range k).map f
theorem upto_succ {α : Type} (f : Nat → α) (k : Nat) : upto f (k + 1) = upto f k ++ [f k] := by simp [upto, List.range_succ]
theorem upto_length {α : Type} (f : Nat → α) (k : Nat) : (upto f k).length = k := by simp [upto]
theorem way_next (zs : List GP) (k : Nat) : (way zs (k + 1)).1 = gat zs k := by simp [way]
theorem way_snd (zs : List GP) (k : Nat) : (way zs k).2 = gat zs k := rfl
theorem way_zero (zs : List GP) : (way zs 0).1 = gat zs (zs.length - 1) := by simp [way]

theorem ways_any (A : Option Addr) (n c : Nat) (w : World) :
    Calls Try.prog 47 #[.slice A n c] w fun e w' => e = .returned (.func (.func 69) #[] #[.pointer (some ⟨w.heap.size, 0, none⟩)]) ∧ w.alloc (.cells #[.slice A n c] 29) = w' := by
  go_enter Try.func47, Try.ntmps47
  go_wp2
  go_ret
  exact ⟨rfl, rfl⟩

set_option maxRecDepth 100000 in
set_option maxHeartbeats 2000000 in
/-- ways$1: every way is handed to yield, until it says 'no more'. -/
theorem ways1_in (F : Fence) (n : Nat) (h7 : F.fn 69) (hro : F.round = none) (hn : 1 ≤ n) (l Bs n₀ b off m cap : Nat) (zs : List GP) (hz : zs.length = m + 1) (hm : m < 1000) (hb : b < n₀) (J Jx : List (GP × GP) → World → Prop)
    (hY : ∀ pre x W, J pre W → pre.length < m + 1 → YieldAt F (n - 1) Try.prog l #[cx (gx x.1) (gy x.1), cx (gx x.2) (gy x.2)] W fun e W' =>
      (e = .returned (.bool true) ∧ J (pre ++ [x]) W' ∧ Below n₀ W W') ∨ (e = .returned (.bool false) ∧ Jx (pre ++ [x]) W'))
    (W : World) (hBs : W.cell? ⟨Bs, 0, none⟩ = some (.slice (some ⟨b, off, none⟩) (m + 1) cap)) (hc : ∀ j, j < m + 1 → W.cell? ⟨b, off + j, none⟩ = some (cx (gx (gat zs j)) (gy (gat zs j)))) (h0 : J [] W) :
    CallsIn F n Try.prog 69 #[.func (.yield l) #[] #[], .pointer (some ⟨Bs, 0, none⟩)] W fun e W' => (∃ v, e = .returned v) ∧
      ((∃ ys, ys = upto (way zs) (m + 1) ∧ J ys W') ∨ (∃ pre, (∃ k, k ≤ m + 1 ∧ pre = upto (way zs) k) ∧ Jx pre W')) := by
  have hl := hc m (by omega)
  have hw0 : (way zs 0).1 = gat zs m := by rw [way_zero, hz]; rfl
  have HC := Lib.hid hc
  have HY := Lib.hid hY
  clear hc hY
  refine callsIn_of_wp Try.func69 rfl h7 ?_ hro
  simp only [Try.ntmps69, List.size_toArray, List.length_cons, List.length_nil, Nat.reduceAdd, Nat.reduceSub, Array.replicate_succ, Array.replicate_zero, List.push_toArray, List.append_toArray, List.nil_append, List.cons_append]
  gi_wp2
  gi_loopw [3, 14] (fun a i wr => ∃ k : Nat, k ≤ m + 1 ∧ a = cx (gx (way zs k).1) (gy (way zs k).1) ∧ i = .int .i64 k ∧ J (upto (way zs) k) wr ∧ Below n₀ W wr)
    (fun _ i _ => m + 1 - (intOf i).toNat)
  case atStart => exact ⟨0, Nat.zero_le _, by rw [hw0], rfl, h0, Below.refl _ _⟩
  case round =>
    obtain ⟨k, hk, rfl, rfl, hJs, hnx⟩ := hrel
    by_cases hlt : k < m + 1
    · have hcx := (hnx.cell (p := ⟨b, off + k, none⟩) hb).trans (HC.out k hlt)
      obtain ⟨fn, tmps, assign, body, hy, hR⟩ := HY.out _ (way zs k) wr hJs (by rw [upto_length]; exact hlt)
      rw [way_snd] at hy
      have HE := Lib.hid (upto_succ (way zs) k)
      have HN := Lib.hid (way_next zs k)
      gi_wp2
      refine hR.mono ?_
      rintro e W3 (⟨rfl, hJ3, hk3⟩ | ⟨rfl, hJx3⟩)
      · gi_wp2
        go_roundw
        case rel => exact ⟨k + 1, by omega, by rw [HN.out], by go_num, by rw [HE.out]; exact hJ3, hnx.trans hk3⟩
        case measure => simp [intOf]; omega
      · gi_wp2
        refine bodyPost_ret (results_none rfl _ _ _) rfl ?_
        exact ⟨⟨_, rfl⟩, .inr ⟨_, ⟨k + 1, by omega, HE.out.symm⟩, hJx3⟩⟩
    · obtain rfl : k = m + 1 := by omega
      gi_wp2
      go_end0
      exact ⟨⟨_, rfl⟩, .inl ⟨_, rfl, hJs⟩⟩
end Go.Proofs.Ytbgllbjkmjlipaa
