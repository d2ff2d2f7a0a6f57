/- For the walk of NavTurns: lists of points that grow; a store of a number's row; remainders. -/
import Derived.Test.YtbgllbjkmjlipaaW10
namespace Go.Proofs.Ytbgllbjkmjlipaa
open Go.RowKit Go.Shelf
attribute [local go_sem] fmt64

theorem st24 (x y : Value) : Instr.storeAt 24 x y = stRow 24 x y := stRow_eq 24 x y
theorem st24_run {g : Nat} {W : World} {a b c : Int} (h : RR g 3 24 W) : (stRow 24 (.pointer (some ⟨g, 0, none⟩)) (.agg #[.int .i64 a, .int .i64 b, .int .i64 c])).run Try.prog W = .ok () (W.setRow g #[.int .i64 a, .int .i64 b, .int .i64 c]) :=
  stRow_run h rfl (by kernel_rfl) (by simp [Value.oneCell'])
theorem rr24 (W : World) (o : Obj) (o' : Obj) (a b c : Value) : RR (W.heap.size + 1 + 1) 3 24 (((W.alloc o).alloc o').alloc (.cells #[a, b, c] 24)) := by
  have := RR.new ((W.alloc o).alloc o') #[a, b, c] 24
  simpa using this
theorem setRow_alloc3 (W : World) (o o' : Obj) (c c' : Array Value) (t : TypeId) : (((W.alloc o).alloc o').alloc (.cells c t)).setRow (W.heap.size + 1 + 1) c' = ((W.alloc o).alloc o').alloc (.cells c' t) := by
  have := World.setRow_alloc_new ((W.alloc o).alloc o') c c' t
  simpa using this

def listOf (g : Nat → Int × Int) (k : Nat) : List GP := (List.range k).map fun j => gpz (g j)
theorem listOf_succ (g : Nat → Int × Int) (k : Nat) : listOf g (k + 1) = listOf g k ++ [gpz (g k)] := by simp [listOf, List.range_succ]
theorem listOf_len (g : Nat → Int × Int) (k : Nat) : (listOf g k).length = k := by simp [listOf]
theorem listOf_are {g : Nat → Int × Int} {n : Nat} (h : ∀ k, k < n → (g k).1.natAbs < 1048576 ∧ (g k).2.natAbs < 1048576) : Are (listOf g n) n g := gps_are h
theorem are_snoc {zs : List GP} {k : Nat} {g : Nat → Int × Int} {p : GP} (h : Are zs k g) (h1 : p.1.re = (g k).1) (h2 : p.1.im = (g k).2) : Are (zs ++ [p]) (k + 1) g := by
  refine ⟨by simp [h.1], fun j hj => ?_⟩
  by_cases c : j < k
  · have : gat (zs ++ [p]) j = gat zs j := by simp [gat, List.getElem?_append_left (show j < zs.length by rw [h.1]; exact c)]
    rw [this]; exact h.2 j c
  · obtain rfl : j = k := by omega
    have : gat (zs ++ [p]) j = p := by rw [← h.1]; simp [gat]
    rw [this]; exact ⟨h1, h2⟩
theorem are_nil (g : Nat → Int × Int) : Are [] 0 g := ⟨rfl, fun _ h => by omega⟩
theorem gval_gpz {p : Int × Int} (h : p.1.natAbs < 1048576 ∧ p.2.natAbs < 1048576) : gval (gpz p) = cx (wd false p.1) (wd false p.2) := by
  rw [gpz_at h]; rfl
theorem map_snoc {zs : List GP} {p : GP} : zs.map gval ++ [gval p] = (zs ++ [p]).map gval := by simp
/-- Where a fence begins. -/
theorem from_fact (fr : Int) (m : Nat) (hm : m < 1000) : ∃ (t : Int) (s : Nat), fr.tmod ((m : Int) + 1) = t ∧ IntKind.i64.wrap t = t ∧ IntKind.i64.wrap (t + ((m : Int) + 1)) = t + ((m : Int) + 1) ∧ (t + ((m : Int) + 1)).tmod ((m : Int) + 1) = (s : Int) ∧ IntKind.i64.wrap (s : Int) = (s : Int) ∧ s < m + 1 := by
  have h1 : (fr.tmod ((m : Int) + 1)).natAbs < m + 1 := by
    rw [Int.natAbs_tmod]
    have : ((m : Int) + 1).natAbs = m + 1 := by omega
    rw [this]
    exact Nat.mod_lt _ (by omega)
  generalize fr.tmod ((m : Int) + 1) = t at h1
  have h2 : (t + ((m : Int) + 1)).tmod ((m : Int) + 1) = (t + ((m : Int) + 1)) % ((m : Int) + 1) := Int.tmod_eq_emod_of_nonneg (by omega)
  have h3 := Int.emod_lt_of_pos (t + ((m : Int) + 1)) (show (0 : Int) < (m : Int) + 1 by omega)
  have h4 := Int.emod_nonneg (t + ((m : Int) + 1)) (show (m : Int) + 1 ≠ 0 by omega)
  refine ⟨t, ((t + ((m : Int) + 1)) % ((m : Int) + 1)).toNat, rfl, IntWalk.i64_in _ (by omega), IntWalk.i64_in _ (by omega), ?_, IntWalk.i64_in _ (by omega), by omega⟩
  rw [h2]; omega
theorem index_fact (k s m : Nat) (hm : m < 1000) (hk : k < m + 1) (hs : s < m + 1) : IntKind.i64.wrap ((k : Int) + (s : Int)) = (k : Int) + (s : Int) ∧ ((k : Int) + (s : Int)).tmod ((m : Int) + 1) = (((k + s) % (m + 1) : Nat) : Int) := by
  refine ⟨IntWalk.i64_in _ (by omega), ?_⟩
  rw [Int.tmod_eq_emod_of_nonneg (by omega), Int.natCast_emod]
  simp
/-- A point times i. -/
theorem turn_fact (p : Int × Int) (h : p.1.natAbs < 1048576 ∧ p.2.natAbs < 1048576) : ∃ q : GP, q.1.re = -p.2 ∧ q.1.im = p.1 ∧ ∀ w, (binOp .mul 31 (.complex .f64 (wd false p.1) (wd false p.2)) (.complex .f64 0 4607182418800017408)).run Try.prog w = .ok (gval q) w := by
  obtain ⟨s, t, hm⟩ := cMul_wd false false false false p.1 p.2 0 1 (by omega) (by omega) (by decide) (by decide)
  rw [lit0, lit1, show p.1 * 0 - p.2 * 1 = -p.2 by omega, show p.1 * 1 + p.2 * 0 = p.1 by omega] at hm
  exact ⟨⟨⟨s, -p.2, t, p.1⟩, by show (-p.2).natAbs < 1048576 ∧ p.1.natAbs < 1048576; omega⟩, rfl, rfl, fun w => run_complex_mul w 31 _ _ _ _ _ _ hm⟩
end Go.Proofs.Ytbgllbjkmjlipaa
