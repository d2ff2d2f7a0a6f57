/- Contracts: all and what it calls (ContainsFunc, IndexFunc). -/
import Derived.Test.YtbgllbjkmjlipaaI
namespace Go.Proofs.Ytbgllbjkmjlipaa
open Go.RowKit
attribute [local go_sem] fmt64

/-- A slice's cells, below block B. -/
def Pts (W : World) (B : Nat) (A : Option Addr) (n : Nat) (f : Nat → Value) : Prop :=
  ∀ k, k < n → ∃ b off, A = some ⟨b, off, none⟩ ∧ b < B ∧ W.cell? ⟨b, off + k, none⟩ = some (f k)
theorem Pts.below {W W' : World} {B : Nat} {A : Option Addr} {n : Nat} {f : Nat → Value} (h : Pts W B A n f) (hb : Below B W W') : Pts W' B A n f := fun k hk => by
  obtain ⟨b, off, e, hlt, hc⟩ := h k hk
  exact ⟨b, off, e, hlt, (hb.cell (p := ⟨b, off + k, none⟩) hlt).trans hc⟩
theorem Pts.more {W : World} {B B' : Nat} {A : Option Addr} {n : Nat} {f : Nat → Value} (h : Pts W B A n f) (hb : B ≤ B') : Pts W B' A n f := fun k hk => by
  obtain ⟨b, off, e, hlt, hc⟩ := h k hk
  exact ⟨b, off, e, by omega, hc⟩
def allB (X Y : Nat → Nat) : Nat → Bool
  | 0 => true
  | n + 1 => allB X Y n && mayZ (X n) (Y n)
theorem allB_no {X Y : Nat → Nat} {n k : Nat} (hk : k < n) (h : mayZ (X k) (Y k) = false) : allB X Y n = false := by
  induction n with
  | zero => omega
  | succ m ih =>
    rw [allB]
    by_cases c : k = m
    · subst c; rw [h, Bool.and_false]
    · rw [ih (by omega), Bool.false_and]
theorem allB_at {X Y : Nat → Nat} {n k : Nat} (h : allB X Y n = true) (hk : k < n) : mayZ (X k) (Y k) = true := by
  cases c : mayZ (X k) (Y k) with
  | true => rfl
  | false => rw [allB_no hk c] at h; cases h
theorem allB_yes {X Y : Nat → Nat} {n : Nat} (h : ∀ k, k < n → mayZ (X k) (Y k) = true) : allB X Y n = true := by
  induction n with
  | zero => rfl
  | succ m ih => rw [allB, ih (fun k hk => h k (by omega)), h m (by omega)]; rfl

theorem not68_any (x y : Nat) (w : World) : Calls Try.prog 68 #[cx x y] w fun e w' => e = .returned (.bool (!mayZ x y)) ∧ Below w.heap.size w w' := by
  have hm := may_any x y
  go_enter Try.func68, Try.ntmps68
  go_wp2_with fail
  refine (hm _).mono ?_
  rintro e w1 ⟨rfl, hb⟩
  go_wp2
  go_ret
  exact ⟨rfl, hb⟩
theorem index_any (A : Option Addr) (n cap : Nat) (X Y : Nat → Nat) (hn : n ≤ 1000) (w : World) (hp : Pts w w.heap.size A n (fun k => cx (X k) (Y k))) :
    Calls Try.prog 78 #[.slice A n cap, .func (.func 68) #[] #[]] w fun e w' => (∃ r, e = .returned (.int .i64 r) ∧ decide (0 ≤ r) = !allB X Y n) ∧ Below w.heap.size w w' := by
  have HP := Lib.hid hp
  clear hp
  go_enter Try.func78, Try.ntmps78
  go_wp2
  go_loopw [8] (fun i wr => ∃ k : Nat, k ≤ n ∧ i = .int .i64 k ∧ Hid (allB X Y k = true) ∧ Below w.heap.size w wr) (fun i _ => n - (intOf i).toNat)
  case atStart => exact ⟨0, Nat.zero_le _, rfl, rfl, Below.refl _ _⟩
  case round =>
    obtain ⟨k, hk, rfl, HA, hb⟩ := hrel
    by_cases hlt : k < n
    · obtain ⟨b, off, rfl, hbl, hc0⟩ := HP.out k hlt
      have hc := (hb.cell (p := ⟨b, off + k, none⟩) hbl).trans hc0
      have HX := Lib.hid (allB_no (X := X) (Y := Y) hlt)
      have HS : Hid (mayZ (X k) (Y k) = true → allB X Y (k + 1) = true) := Lib.hid fun h => by rw [allB, HA.out, h]; rfl
      have hm := not68_any (X k) (Y k)
      generalize mayZ (X k) (Y k) = mz at hm HX HS
      clear hc0
      cases mz with
      | false =>
        have HE := Lib.hid (HX.out rfl)
        clear HX HS
        go_wp2_with fail
        refine (hm _).mono ?_
        rintro e w1 ⟨rfl, hb1⟩
        go_wp2
        go_ret
        exact ⟨⟨_, rfl, by rw [HE.out]; rfl⟩, hb.trans (hb1.mono hb.size)⟩
      | true =>
        have HE := Lib.hid (HS.out rfl)
        clear HX HS
        go_wp2_with fail
        refine (hm _).mono ?_
        rintro e w1 ⟨rfl, hb1⟩
        have hb2 := hb.trans (hb1.mono hb.size)
        clear hb1
        go_wp2
        go_roundw
        case rel => exact ⟨k + 1, by omega, by go_num, HE.out, hb2⟩
        case measure => simp [intOf]; omega
    · obtain rfl : n = k := by omega
      go_wp2
      go_ret
      exact ⟨⟨_, rfl, by rw [HA.out]; rfl⟩, hb⟩
theorem contains_any (A : Option Addr) (n cap : Nat) (X Y : Nat → Nat) (hn : n ≤ 1000) (w : World) (hp : Pts w w.heap.size A n (fun k => cx (X k) (Y k))) :
    Calls Try.prog 67 #[.slice A n cap, .func (.func 68) #[] #[]] w fun e w' => e = .returned (.bool (!allB X Y n)) ∧ Below w.heap.size w w' := by
  have hi := index_any A n cap X Y hn w hp
  clear hp
  generalize allB X Y n = q at hi ⊢
  go_enter Try.func67, Try.ntmps67
  go_wp2_with fail
  refine hi.mono ?_
  rintro e w1 ⟨⟨r, rfl, hr⟩, hb⟩
  go_wp2
  go_ret
  exact ⟨ret_bool (by rw [← hr]), hb⟩
theorem all_any (A : Option Addr) (n cap : Nat) (X Y : Nat → Nat) (hn : n ≤ 1000) (w : World) (hp : Pts w w.heap.size A n (fun k => cx (X k) (Y k))) :
    Calls Try.prog 46 #[.slice A n cap] w fun e w' => e = .returned (.bool (allB X Y n)) ∧ Below w.heap.size w w' := by
  have hi := contains_any A n cap X Y hn w hp
  clear hp
  generalize allB X Y n = q at hi ⊢
  go_enter Try.func46, Try.ntmps46
  go_wp2_with fail
  refine hi.mono ?_
  rintro e w1 ⟨rfl, hb⟩
  go_wp2
  go_ret
  exact ⟨ret_bool (by simp), hb⟩
end Go.Proofs.Ytbgllbjkmjlipaa
