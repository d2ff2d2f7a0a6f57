/- Contracts: Mul of 1 and 3, Repeat, form. -/
import Derived.Test.YtbgllbjkmjlipaaN4
import Derived.Laws.CopyRow
import Derived.Laws.CopyOwn
namespace Go.Proofs.Ytbgllbjkmjlipaa
open Go.RowKit
attribute [local go_sem] fmt64

theorem mul64_13 (w : World) : Calls Try.prog 97 #[.int .u64 1, .int .u64 3] w fun e w' => e = .returned (.tuple #[.int .u64 0, .int .u64 3]) ∧ w = w' := by
  go_enter Try.func97, Try.ntmps97
  go_wp2
  go_ret2
  exact ⟨rfl, rfl⟩
theorem mul_13 (w : World) : Calls Try.prog 85 #[.int .u64 1, .int .u64 3] w fun e w' => e = .returned (.tuple #[.int .u64 0, .int .u64 3]) ∧ w = w' := by
  go_enter Try.func85, Try.ntmps85
  go_wp2_with (go_at_call 97; refine (mul64_13 _).mono ?_; rintro e w' ⟨rfl, rfl⟩)
  go_ret2
  exact ⟨rfl, rfl⟩
theorem info129 : (Try.prog.info? 129).map (fun i => (i.zero, i.size, i.bytes)) = some (some (.agg #[.int .i64 0, .int .i64 0]), 2, 16) := by kernel_rfl
theorem make112 (W : World) : (Instr.makeSlice 112 (.int .i64 3) (.int .i64 3)).run Try.prog W = .ok (.slice (some ⟨W.heap.size, 0, none⟩) 3 3) (W.alloc (.cells #[.int .i64 0, .int .i64 0, .int .i64 0, .int .i64 0, .int .i64 0, .int .i64 0] 129)) := by
  obtain ⟨i0, hi, hz0, hz1, hz2⟩ := info_parts info129
  have h := run_make (P := Try.prog) W 112 129 i0 _ Try.underlying112 hi hz0 .i64 .i64 3 3 (by decide) (by decide) (by rw [hz2]; decide) (by decide)
  rw [hz1] at h
  have e : madeCells (Value.agg #[.int .i64 0, .int .i64 0]).cells (Int.toNat 3 * 2) = #[.int .i64 0, .int .i64 0, .int .i64 0, .int .i64 0, .int .i64 0, .int .i64 0] := by
    first | rfl | kernel_rfl | (simp [madeCells, Value.cells])
  rw [e] at h
  exact h
theorem run_copy_pairs (W : World) (ty : TypeId) (g o dLen dCap : Nat) (a : Addr) (sLen sCap : Nat) (cur : Array Value) (cs : List Value) (hg : W.heap[g]? = some (.cells cur 129 (0, 0))) (hn : cs.length = Nat.min sLen dLen * 2)
    (hsrc : ∀ j v, cs[j]? = some v → W.cell? (a.add j) = some v) (hfit : o + cs.length ≤ cur.size) (h1 : ∀ v ∈ cs, v.oneCell' = true) :
    (Builtin.copy_ #[112, 112] ty #[.slice (some ⟨g, o, none⟩) dLen dCap, .slice (some a) sLen sCap]).run Try.prog W = .ok (goInt (Nat.min sLen dLen)) (W.setRow g (cur.toList.take o ++ cs ++ cur.toList.drop (o + cs.length)).toArray) := by
  obtain ⟨i0, hi, _, hz1, _⟩ := info_parts info129
  have hl := run_loadCells_list (P := Try.prog) W a cs hsrc
  have hst := run_storeCells_at Try.prog g o 129 cs 0 cur W hg (by simpa using hfit) h1
  simp [Builtin.copy_, run_underlying Try.underlying112, Builtin.lenOf, Builtin.firstCells, sizeOf, typeInfo, hi, hz1, ← hn, hl, hst]
attribute [local go_sem] make112

def reps (k : Nat) : Array Value := if k = 1 then #[.int .i64 3, .int .i64 64, .int .i64 0, .int .i64 0, .int .i64 0, .int .i64 0] else if k = 2 then #[.int .i64 3, .int .i64 64, .int .i64 3, .int .i64 64, .int .i64 0, .int .i64 0] else #[.int .i64 3, .int .i64 64, .int .i64 3, .int .i64 64, .int .i64 3, .int .i64 64]
theorem copy_next (W : World) (B k : Nat) (hk : k = 1 ∨ k = 2) (h : W.heap[B]? = some (.cells (reps k) 129 (0, 0))) :
    (Builtin.copy_ #[112, 112] 3 #[.slice (some ⟨B, k * 2, none⟩) (3 - k) (3 - k), .slice (some ⟨B, 0, none⟩) k 3]).run Try.prog W = .ok (.int .i64 1) (W.setRow B (reps (k + 1))) := by
  have hc : ∀ j v, [Value.int .i64 3, .int .i64 64][j]? = some v → W.cell? ((⟨B, 0, none⟩ : Addr).add j) = some v := by
    intro j v hj
    rw [Addr.add_lit, cell_of_row _ _ _ _ _ _ h]
    rcases hk with rfl | rfl <;> (match j, hj with | 0, hj => simpa [reps] using hj | 1, hj => simpa [reps] using hj)
  rcases hk with rfl | rfl
  · exact run_copy_pairs W 3 B 2 2 2 ⟨B, 0, none⟩ 1 3 (reps 1) [.int .i64 3, .int .i64 64] h (by decide) hc (by decide) (by simp [Value.oneCell'])
  · exact run_copy_pairs W 3 B 4 1 1 ⟨B, 0, none⟩ 2 3 (reps 2) [.int .i64 3, .int .i64 64] h (by decide) hc (by decide) (by simp [Value.oneCell'])
set_option maxRecDepth 100000 in
set_option maxHeartbeats 2000000 in
theorem repeat_any (w : World) (g c : Nat) (_hg : g < w.heap.size) (h0 : w.cell? ⟨g, 0, none⟩ = some (.int .i64 3)) (h1 : w.cell? ⟨g, 1, none⟩ = some (.int .i64 64)) :
    Calls Try.prog 75 #[.slice (some ⟨g, 0, none⟩) 1 c, .int .i64 3] w fun e w' => e = .returned (.slice (some ⟨w.heap.size, 0, none⟩) 3 3) ∧ Below w.heap.size w w' ∧ w'.heap[w.heap.size]? = some (.cells (reps 3) 129 (0, 0)) := by
  have hcp : (Builtin.copy_ #[112, 112] 3 #[.slice (some ⟨w.heap.size, 0, none⟩) 3 3, .slice (some ⟨g, 0, none⟩) 1 c]).run Try.prog (w.alloc (.cells #[.int .i64 0, .int .i64 0, .int .i64 0, .int .i64 0, .int .i64 0, .int .i64 0] 129)) = .ok (.int .i64 1) (w.alloc (.cells (reps 1) 129)) := by
    have h := run_copy_pairs (w.alloc (.cells #[.int .i64 0, .int .i64 0, .int .i64 0, .int .i64 0, .int .i64 0, .int .i64 0] 129)) 3 w.heap.size 0 3 3 ⟨g, 0, none⟩ 1 c #[.int .i64 0, .int .i64 0, .int .i64 0, .int .i64 0, .int .i64 0, .int .i64 0] [.int .i64 3, .int .i64 64] (heap_alloc_new _ _) (by decide)
      (fun j v hj => by
        rw [Addr.add_lit]
        refine Lib.cell?_alloc_some _ ?_
        match j, hj with
        | 0, hj => rw [h0, ← hj]; rfl
        | 1, hj => rw [h1, ← hj]; rfl) (by decide) (by simp [Value.oneCell'])
    rw [World.setRow_alloc_new] at h
    exact h
  have R1 := Lib.hid (heap_alloc_new w (.cells (reps 1) 129))
  have B1 := Lib.hid ((Below.refl w.heap.size w).alloc (Nat.le_refl _) (.cells (reps 1) 129))
  generalize hW1 : w.alloc (.cells (reps 1) 129) = W1 at hcp R1 B1
  clear h0 h1
  go_enter Try.func75, Try.ntmps75
  go_wp2_with (go_at_call 85; refine (mul_13 _).mono ?_; rintro e w' ⟨rfl, rfl⟩)
  clear hcp
  go_loopw [8] (fun n wr => ∃ k : Nat, 1 ≤ k ∧ k ≤ 3 ∧ n = .int .i64 k ∧ Hid (wr.heap[w.heap.size]? = some (.cells (reps k) 129 (0, 0))) ∧ Hid (Below w.heap.size w wr)) (fun n _ => 3 - (intOf n).toNat)
  case atStart => exact ⟨1, by omega, by omega, rfl, R1, B1⟩
  case round =>
    clear R1 B1 hW1
    obtain ⟨k, hk1, hk3, rfl, HR, HB⟩ := hrel
    obtain h | h | h : k = 1 ∨ k = 2 ∨ k = 3 := by omega
    · subst h
      have c1 : (Builtin.copy_ #[112, 112] 3 #[.slice (some ⟨w.heap.size, 2, none⟩) 2 2, .slice (some ⟨w.heap.size, 0, none⟩) 1 3]).run Try.prog wr.drew = .ok (.int .i64 1) (wr.drew.setRow w.heap.size (reps 2)) := copy_next wr.drew w.heap.size 1 (.inl rfl) HR.out
      have R2 := Lib.hid (setRow_heap wr.drew w.heap.size (reps 1) (reps 2) 129 (0, 0) HR.out)
      have B2 := Lib.hid (below_setRow HB.out.drew (Nat.le_refl _) (reps 2))
      clear HR HB hk1 hk3
      go_wp2_with fail
      go_region
      go_wp2
      go_roundw
      case rel => exact ⟨2, by omega, by omega, by go_num, R2, B2⟩
      case measure => simp [intOf]
    · subst h
      have c1 : (Builtin.copy_ #[112, 112] 3 #[.slice (some ⟨w.heap.size, 4, none⟩) 1 1, .slice (some ⟨w.heap.size, 0, none⟩) 2 3]).run Try.prog wr.drew = .ok (.int .i64 1) (wr.drew.setRow w.heap.size (reps 3)) := copy_next wr.drew w.heap.size 2 (.inr rfl) HR.out
      have R2 := Lib.hid (setRow_heap wr.drew w.heap.size (reps 2) (reps 3) 129 (0, 0) HR.out)
      have B2 := Lib.hid (below_setRow HB.out.drew (Nat.le_refl _) (reps 3))
      clear HR HB hk1 hk3
      go_wp2_with fail
      go_region
      go_wp2
      go_roundw
      case rel => exact ⟨3, by omega, by omega, by go_num, R2, B2⟩
      case measure => simp [intOf]
    · subst h
      go_wp2
      go_ret
      exact ⟨rfl, HB.out, HR.out⟩
theorem form_any (w : World) : Calls Try.prog 63 #[] w fun e w' => ∃ g, e = .returned (.slice (some ⟨g, 0, none⟩) 3 3) ∧ w.heap.size ≤ g ∧ Below w.heap.size w w' ∧ w'.heap[g]? = some (.cells (reps 3) 129 (0, 0)) := by
  have hr := repeat_any (w.alloc (.cells #[.int .i64 3, .int .i64 64] 129)) w.heap.size 1 (by simp) (by rw [cell_of_row _ _ _ _ _ _ (heap_alloc_new w _)]; rfl) (by rw [cell_of_row _ _ _ _ _ _ (heap_alloc_new w _)]; rfl)
  have hB0 := (Below.refl w.heap.size w).alloc (Nat.le_refl _) (.cells #[.int .i64 3, .int .i64 64] 129)
  go_enter Try.func63, Try.ntmps63
  go_wp2_with fail
  refine hr.mono ?_
  rintro e w1 ⟨rfl, hb, hrow⟩
  have hB1 := bt hB0 hb
  rw [World.size_alloc] at hrow
  go_wp2
  go_ret
  exact ⟨_, rfl, by simp, hB1, hrow⟩
end Go.Proofs.Ytbgllbjkmjlipaa
