/- Contracts: words; the document's Encode. -/
import Derived.Test.YtbgllbjkmjlipaaN8
namespace Go.Proofs.Ytbgllbjkmjlipaa
open Go.RowKit
attribute [local go_sem] fmt64

set_option maxRecDepth 100000 in
theorem words_same (g g' c c' : Nat) (x : Nat → Nat) (w : World) (h : ∀ k, k < 3 → w.cell? ⟨g, k, none⟩ = some (.int .u64 (x k)) ∧ w.cell? ⟨g', k, none⟩ = some (.int .u64 (x k))) :
    Calls Try.prog 43 #[.slice (some ⟨g, 0, none⟩) 3 c, .slice (some ⟨g', 0, none⟩) 3 c'] w fun e w' => e = .returned (.bool true) ∧ Below w.heap.size w w' := by
  have HH := Lib.hid fun k hk => h k hk
  have hlg : ∀ k, k < 3 → g < w.heap.size ∧ g' < w.heap.size := fun k hk => ⟨World.block_lt_of_cell? w _ (h k hk).1, World.block_lt_of_cell? w _ (h k hk).2⟩
  have HL := Lib.hid (hlg 0 (by omega))
  clear h hlg
  go_enter Try.func43, Try.ntmps43
  go_wp2
  go_loopw [5] (fun i wr => ∃ k : Nat, k ≤ 3 ∧ i = .int .i64 k ∧ Hid (Below w.heap.size w wr)) (fun i _ => 3 - (intOf i).toNat)
  case atStart => exact ⟨0, by omega, rfl, Lib.hid (Below.refl _ _)⟩
  case round =>
    obtain ⟨k, hk, rfl, HB⟩ := hrel
    by_cases hlt : k < 3
    · have i1 : (0 : Int) ≤ (k : Int) := by omega
      have i2 : (k : Int) < 3 := by omega
      have c1 := (HB.out.cell (p := ⟨g, k, none⟩) HL.out.1).trans (HH.out k hlt).1
      have c2 := (HB.out.cell (p := ⟨g', k, none⟩) HL.out.2).trans (HH.out k hlt).2
      go_wp2_with fail
      go_quiet (fail)
      have HB2 : Hid (Below w.heap.size w (wr.drewN nq)) := Lib.hid (HB.out.trans ⟨rfl, rfl, rfl, Nat.le_refl _, fun _ _ => rfl⟩)
      clear c1 c2
      go_wp2
      go_roundw
      case rel => exact ⟨k + 1, by omega, by go_num, HB2⟩
      case measure => simp [intOf]; omega
    · obtain rfl : k = 3 := by omega
      go_wp2
      go_ret
      exact ⟨rfl, HB.out⟩

/-- The three numbers of a pose. -/
def f3 (R I S J N M : Int) (k : Nat) : Int × Int := if k = 0 then (R, I) else if k = 1 then (S, J) else (N, M)
set_option maxRecDepth 100000 in
set_option maxHeartbeats 2000000 in
theorem rencode_any (R I S J N M : Int) (h1 : R.natAbs < 1048576) (h2 : I.natAbs < 1048576) (h3 : S.natAbs < 1048576) (h4 : J.natAbs < 1048576) (h5 : N.natAbs < 1048576) (h6 : M.natAbs < 1048576) (w : World) :
    Calls Try.prog 44 #[pz R I S J N M] w fun e w' => ∃ g, e = .returned (.slice (some ⟨g, 0, none⟩) 3 3) ∧ w'.ownsRow w.heap.size 119 1 (.slice (some ⟨g, 0, none⟩) 3 3) 3 (u3 fun k => wrdF (f3 R I S J N M k).1 (f3 R I S J N M k).2) ∧ Below w.heap.size w w' := by
  have L0 := Lib.hid ((LW.nil w).new 48 #[.int .i64 R, .int .i64 I, .int .i64 S, .int .i64 J, .int .i64 N, .int .i64 M])
  go_enter Try.func44, Try.ntmps44
  go_wp2
  generalize hW : w.alloc (.cells #[.int .i64 R, .int .i64 I, .int .i64 S, .int .i64 J, .int .i64 N, .int .i64 M] 48) = w1 at *
  clear hW
  have sv : Hid (∀ W, Below w1.heap.size w1 W → Below w1.heap.size w1 W ∧ W.cell? ⟨w.heap.size, 0, none⟩ = some (.int .i64 R) ∧ W.cell? ⟨w.heap.size, 1, none⟩ = some (.int .i64 I) ∧ W.cell? ⟨w.heap.size, 2, none⟩ = some (.int .i64 S) ∧ W.cell? ⟨w.heap.size, 3, none⟩ = some (.int .i64 J) ∧ W.cell? ⟨w.heap.size, 4, none⟩ = some (.int .i64 N) ∧ W.cell? ⟨w.heap.size, 5, none⟩ = some (.int .i64 M)) := Lib.hid fun W hb => by
    have LL := L0.out.bel hb
    exact ⟨hb, LL.cell (i := 0) (List.mem_cons_self ..) rfl, LL.cell (i := 1) (List.mem_cons_self ..) rfl, LL.cell (i := 2) (List.mem_cons_self ..) rfl, LL.cell (i := 3) (List.mem_cons_self ..) rfl, LL.cell (i := 4) (List.mem_cons_self ..) rfl, LL.cell (i := 5) (List.mem_cons_self ..) rfl⟩
  have BK0 := (Below.refl w1.heap.size w1).drew
  go_region_held3 (fun W => Below w1.heap.size w1 W ∧ W.cell? ⟨w.heap.size, 0, none⟩ = some (.int .i64 R) ∧ W.cell? ⟨w.heap.size, 1, none⟩ = some (.int .i64 I) ∧ W.cell? ⟨w.heap.size, 2, none⟩ = some (.int .i64 S) ∧ W.cell? ⟨w.heap.size, 3, none⟩ = some (.int .i64 J) ∧ W.cell? ⟨w.heap.size, 4, none⟩ = some (.int .i64 N) ∧ W.cell? ⟨w.heap.size, 5, none⟩ = some (.int .i64 M))
    (first | (with_reducible exact sv.out _ BK0) | (with_reducible assumption) | (with_reducible exact sv.out _ (bt (And.left (by assumption)) hbw)) | (with_reducible exact sv.out _ (bt_alloc (And.left (by assumption)) _)))
    (first | (go_at_call 65; refine (word_any _ _ (by assumption) (by assumption) _).mono ?_; rintro e w_ ⟨rfl, hbw⟩))
  rename_i hK
  have hlt := (Array.getElem?_eq_some_iff.1 (L0.out.row (List.mem_cons_self ..))).1
  have hsz := hK.1.size
  rw [World.size_alloc] at hsz
  have hO := World.ownsRow_lit (base := w.heap.size) (e := 119) (size := 1) w_ #[.int .u64 (wrdF R I), .int .u64 (wrdF S J), .int .u64 (wrdF N M)] 3 (by omega) (by unfold maxLen; omega) rfl
  have HO := Lib.hid hO
  have HBf := Lib.hid (L0.out.bel hK.1).below
  clear hK sv BK0 hO hsz hlt
  go_wp2
  go_ret
  exact ⟨_, rfl, HO.out, HBf.out⟩
end Go.Proofs.Ytbgllbjkmjlipaa
