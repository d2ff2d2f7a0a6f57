/- Contract: plains. -/
import Derived.Test.YtbgllbjkmjlipaaW3
namespace Go.Proofs.Ytbgllbjkmjlipaa
open Go.RowKit Go.Shelf
attribute [local go_sem] fmt64

def zcells : List (Int × Int) → List Value
  | [] => []
  | p :: r => .int .i64 p.1 :: .int .i64 p.2 :: zcells r
theorem zcells_snoc (xs : List (Int × Int)) (p : Int × Int) : zcells (xs ++ [p]) = zcells xs ++ [.int .i64 p.1, .int .i64 p.2] := by
  induction xs with
  | nil => rfl
  | cons y r ih => simp [zcells, ih]
def plzs (ns : List N3) (k : Nat) : List (Int × Int) := (List.range k).map fun j => plz (nat_ ns j)
theorem plzs_succ (ns : List N3) (k : Nat) : plzs ns (k + 1) = plzs ns k ++ [plz (nat_ ns k)] := by simp [plzs, List.range_succ]
def rAll (ns : List N3) : Nat → Bool
  | 0 => true
  | k + 1 => rAll ns k && rightB (plz (nat_ ns k)).1 (plz (nat_ ns k)).2
theorem rAll_at {ns : List N3} {n k : Nat} (h : rAll ns n = true) (hk : k < n) : rightB (plz (nat_ ns k)).1 (plz (nat_ ns k)).2 = true := by
  induction n with
  | zero => omega
  | succ m ih =>
    rw [rAll, Bool.and_eq_true] at h
    by_cases c : k = m
    · subst c; exact h.2
    · exact ih h.1 (by omega)

set_option maxRecDepth 100000 in
set_option maxHeartbeats 2000000 in
theorem plains_any (A : Option Addr) (n cap : Nat) (ns : List N3) (hn : n ≤ 100) (w : World) (hN : Nbs w w.heap.size A n ns) :
    Calls Try.prog 15 #[.slice A n cap] w fun e w' => ∃ v, e = .returned (.tuple #[v, .bool (rAll ns n)]) ∧ w'.ownsRow w.heap.size 39 2 v n (zcells (plzs ns n)) ∧ Below w.heap.size w w' := by
  obtain ⟨i0, hi, hz0, hz1, hz2⟩ := info_parts Try.info39
  have HN := Lib.hid hN
  clear hN
  have hB0 := (Below.refl w.heap.size w).alloc (Nat.le_refl _) (Obj.cells #[] 39)
  have HE := Lib.hid (ownsRow_empty w 39 2)
  go_enter Try.func15, Try.ntmps15
  go_wp2
  go_loopw [4, 5, 6] (fun v al i wr => ∃ k : Nat, k ≤ n ∧ i = .int .i64 k ∧ al = .bool (rAll ns k) ∧ Hid (wr.ownsRow w.heap.size 39 2 v k (zcells (plzs ns k))) ∧ Below w.heap.size w wr)
    (fun _ _ i _ => n - (intOf i).toNat)
  case atStart => exact ⟨0, Nat.zero_le _, rfl, rfl, HE, hB0⟩
  case round =>
    clear HE hB0
    obtain ⟨k, hk, rfl, rfl, HR, hb⟩ := hrel
    by_cases hlt : k < n
    · obtain ⟨b, off, rfl, hbl, h0, h1, h2⟩ := HN.out.2 k hlt
      have c0 := (hb.cell (p := ⟨b, off + k * 3, none⟩) hbl).trans h0
      have c1 := (hb.cell (p := ⟨b, off + k * 3 + 1, none⟩) hbl).trans h1
      have c2 := (hb.cell (p := ⟨b, off + k * 3 + 2, none⟩) hbl).trans h2
      have hv := plainN_any (nat_ ns k).1 (nat_ ns k).2.1 (nat_ ns k).2.2
      have hr := rightN_any (nat_ ns k).1 (nat_ ns k).2.1 (nat_ ns k).2.2
      have HS := Lib.hid (plzs_succ ns k)
      have HA : Hid (rAll ns (k + 1) = (rAll ns k && rightB (plz (nat_ ns k)).1 (plz (nat_ ns k)).2)) := Lib.hid rfl
      unfold plz at HS HA
      dsimp only at HS HA
      generalize plR (nat_ ns k).1 (nat_ ns k).2.1 (nat_ ns k).2.2 = R at *
      generalize plI (nat_ ns k).1 (nat_ ns k).2.1 (nat_ ns k).2.2 = I at *
      have hsz := hb.size
      clear h0 h1 h2
      go_wp2_with fail
      refine (hv _).mono ?_
      rintro e w1 ⟨rfl, hb1⟩
      have HR1 := Lib.hid (ownsRow_bel HR.out hb1)
      have hb01 := hb.trans (hb1.mono hsz)
      have hsz1 := hb01.size
      clear hb1 HR hv
      cases hra : rAll ns k with
      | false =>
        rw [hra, Bool.false_and] at HA
        clear hr c0 c1 c2
        go_wp2_with (at_builtin; go_must (refine wpList_append_own _ rfl _ _ 33 rfl w.heap.size 39 i0 _ 2 16 Try.underlying33 hi hz0 hz1 hz2 rfl (by decide) _ _ _ rfl (HR1.out.alloc _) ⟨w1.heap.size, 0, none⟩ 1 1 [.int .i64 R, .int .i64 I] rfl rfl (News2 w1 _ _ _) (by simp [Value.oneCell']) (by unfold maxLen; omega) (by omega) (by simp <;> omega) ?_); intro v' w2 hown' hgrow _; have hb2 := below_append hb01 hsz1 HR1.out hgrow)
        go_roundw
        case rel => exact ⟨k + 1, by omega, by go_num, by rw [HA.out], Lib.hid (by rw [HS.out, zcells_snoc]; exact hown'), hb2⟩
        case measure => simp [intOf]; omega
      | true =>
        rw [hra, Bool.true_and] at HA
        clear c0 c1 c2
        go_wp2_with (at_builtin; go_must (refine wpList_append_own _ rfl _ _ 33 rfl w.heap.size 39 i0 _ 2 16 Try.underlying33 hi hz0 hz1 hz2 rfl (by decide) _ _ _ rfl (HR1.out.alloc _) ⟨w1.heap.size, 0, none⟩ 1 1 [.int .i64 R, .int .i64 I] rfl rfl (News2 w1 _ _ _) (by simp [Value.oneCell']) (by unfold maxLen; omega) (by omega) (by simp <;> omega) ?_); intro v' w2 hown' hgrow _; have hb2 := below_append hb01 hsz1 HR1.out hgrow; obtain ⟨_, _, e_, _, h0, h1, h2⟩ := HN.out.2 k hlt; cases e_; have c0 := (hb2.cell (p := ⟨b, off + k * 3, none⟩) hbl).trans h0; have c1 := (hb2.cell (p := ⟨b, off + k * 3 + 1, none⟩) hbl).trans h1; have c2 := (hb2.cell (p := ⟨b, off + k * 3 + 2, none⟩) hbl).trans h2; clear h0 h1 h2)
        refine (hr _).mono ?_
        rintro e w3 ⟨rfl, hb3⟩
        have HR3 := Lib.hid (ownsRow_bel hown' hb3)
        have hb03 := hb2.trans (hb3.mono hb2.size)
        clear hb3
        go_wp2
        go_roundw
        case rel => exact ⟨k + 1, by omega, by go_num, by rw [HA.out], Lib.hid (by rw [HS.out, zcells_snoc]; exact HR3.out), hb03⟩
        case measure => simp [intOf]; omega
    · obtain rfl : n = k := by omega
      go_wp2
      go_ret2
      exact ⟨_, rfl, HR.out, hb⟩
end Go.Proofs.Ytbgllbjkmjlipaa
