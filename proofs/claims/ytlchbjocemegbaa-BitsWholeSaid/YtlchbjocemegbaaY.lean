/- aileronref02.Row; and what a slice of fields, or of words, reads as. -/
import Derived.Test.YtlchbjocemegbaaX
import Derived.Test.YtlchbjocemegbaaT
namespace Go.Proofs.Ytlchbjocemegbaa
open Go.RowKit Go.Shelf

theorem row_fields (A : Option Addr) (len cap : Nat) (zs : List Int) (hlen : len ≤ 80) (w : World) (hN : Nums w w.heap.size A len zs) :
    Calls Try.prog 24 #[.slice A len cap] w (RowPost w zs) := callsIn_wide.1 (row_fields_in A len cap zs hlen w hN)

def RRowPost (w : World) (zs : List Int) (e : Ending) (W' : World) : Prop :=
  ∃ v, e = .returned (.tuple #[v, .int .i64 (rowGo 0 zs).2]) ∧ W'.ownsRow w.heap.size 25 2 v (fieldsOf zs).length (cellsOf (fieldsOf zs)) ∧ Below w.heap.size w W'
theorem RRow_bad {w W' : World} {zs : List Int} {pre : List (Nat × Nat)} {c : Int} (h : rowGo 0 zs = (pre, c)) (hc : c ≠ 0) (hb : Below w.heap.size w W') : RRowPost w zs (.returned (.tuple #[.slice none 0 0, .int .i64 c])) W' :=
  ⟨_, by rw [h], by rw [show fieldsOf zs = [] from if_neg (by rw [h]; exact hc)]; exact World.ownsRow_nil _ _ _ _, hb⟩
theorem RRow_ok {w W' : World} {zs : List Int} {pre : List (Nat × Nat)} {v : Value} (h : rowGo 0 zs = (pre, 0)) (hr : W'.ownsRow w.heap.size 25 2 v pre.length (cellsOf pre)) (hb : Below w.heap.size w W') : RRowPost w zs (.returned (.tuple #[v, .int .i64 0])) W' :=
  ⟨_, by rw [h], by rw [show fieldsOf zs = pre from (if_pos (by rw [h])).trans (by rw [h])]; exact hr, hb⟩
theorem RNews2 (W : World) (a b : Value) : ∀ j u, [a, b][j]? = some u → (W.alloc (Obj.cells #[a, b] 25)).cell? ((⟨W.heap.size, 0, none⟩ : Addr).add j) = some u :=
  World.news_of_block (cs := #[a, b]) (t := 25) (fr := (0, 0)) (heap_alloc_new W _)
theorem Try.info25 : (Try.prog.info? 25).map (fun i => (i.zero, i.size, i.bytes)) = some (some (.agg #[.int .i64 0, .int .i64 0]), 2, 16) := by kernel_rfl
theorem below_append {B : Nat} {w W w1 : World} {o : Obj} {v : Value} {e : TypeId} {size k : Nat} {xs : List Value} (hb : Below B w W) (hB : B ≤ W.heap.size) (hr : W.ownsRow B e size v k xs) (hg : (W.alloc o).grownBy w1 v.ownBlock) : Below B w w1 :=
  (hb.alloc hB o).grown hg (by simp <;> omega) fun j ej => by
    rcases hr.2 with ⟨rfl, _⟩ | ⟨g, cap, cur, rfl, hb', _, _⟩
    · simp [Value.ownBlock] at ej
    · obtain rfl : g = j := by simpa [Value.ownBlock] using ej
      exact hb'

set_option maxRecDepth 100000 in
set_option maxHeartbeats 2000000 in
theorem rrow_any (A : Option Addr) (len cap : Nat) (zs : List Int) (hlen : len ≤ 80) (w : World) (hN : Nums w w.heap.size A len zs) :
    Calls Try.prog 25 #[.slice A len cap] w (RRowPost w zs) := by
  obtain ⟨i0, hi, hz0, hz1, hz2⟩ := info_parts Try.info25
  have HN := Lib.hid hN
  clear hN
  go_enter Try.func25, Try.ntmps25
  go_wp2
  go_loopw [4, 5, 6] (fun v a i wr => ∃ (k at_ : Nat) (pre : List (Nat × Nat)), k ≤ len ∧ at_ ≤ 64 ∧ a = .int .i64 at_ ∧ i = .int .i64 k ∧ pre.length ≤ k ∧ Hid (rowGo 0 zs = (pre ++ (rowGo at_ (zs.drop k)).1, (rowGo at_ (zs.drop k)).2)) ∧ Hid (wr.ownsRow w.heap.size 25 2 v pre.length (cellsOf pre)) ∧ Below w.heap.size w wr)
    (fun _ _ i _ => len - (intOf i).toNat)
  case atStart => exact ⟨0, 0, [], Nat.zero_le _, by omega, rfl, rfl, by simp, by simp [Hid], World.ownsRow_nil _ _ _ _, Below.refl _ _⟩
  case round =>
    obtain ⟨k, at_, pre, hk, hat, rfl, rfl, hpk, HG, HR, hb⟩ := hrel
    by_cases hlt : k < len
    · obtain ⟨b, off, rfl, hbl, hc0⟩ := HN.out.2 k hlt
      have hc := (hb.cell (p := ⟨b, off + k, none⟩) hbl).trans hc0
      have hzk : k < zs.length := by rw [HN.out.1]; exact hlt
      have G1 := Lib.hid (rowGo_1 (at_ := at_) hzk)
      have G2 := Lib.hid (rowGo_2 (at_ := at_) hzk)
      have G3 := Lib.hid (rowGo_3 (at_ := at_) hzk)
      generalize zs[k]?.getD 0 = z at hc hc0 G1 G2 G3
      clear hzk
      have hsz := hb.size
      by_cases c1 : z < 1 ∨ 64 < z
      · have HE := Lib.hid (HG.out.trans (by rw [G1.out c1, List.append_nil]))
        by_cases c2 : z < 1
        · have d1 : decide (z < 1) = true := by simpa using c2
          clear c1
          go_wp2
          go_ret2
          exact RRow_bad HE.out (by decide) hb
        · have d1 : decide (z < 1) = false := by simpa using c2
          have d2 : decide (64 < z) = true := by simp <;> omega
          clear c1
          go_wp2
          go_ret2
          exact RRow_bad HE.out (by decide) hb
      · have d1 : decide (z < 1) = false := by simp <;> omega
        have d2 : decide (64 < z) = false := by simp <;> omega
        obtain ⟨m, rfl⟩ : ∃ m : Nat, z = (m : Int) := ⟨z.toNat, by omega⟩
        have e2 : m ≤ 64 := by omega
        by_cases c3 : 64 - (at_ : Int) < (m : Int)
        · have HE := Lib.hid (HG.out.trans (by rw [G2.out c1 c3, List.append_nil]))
          have d3 : decide (64 < (at_ : Int) + (m : Int)) = true := by simp <;> omega
          clear c1
          go_wp2
          go_ret2
          exact RRow_bad HE.out (by decide) hb
        · have d3 : decide (64 < (at_ : Int) + (m : Int)) = false := by simp <;> omega
          have hg := G3.out c1 c3
          rw [Int.toNat_natCast] at hg
          have HE := Lib.hid (HG.out.trans (by rw [hg, step_app]))
          clear c1 hg
          go_wp2_with (at_builtin; go_must (refine wpList_append_own _ rfl _ _ 49 rfl w.heap.size 25 i0 _ 2 16 Try.underlying49 hi hz0 hz1 hz2 rfl (by decide) _ _ _ rfl (HR.out.alloc _) ⟨wr.heap.size, 0, none⟩ 1 1 [.int .i64 at_, .int .i64 m] rfl rfl (RNews2 wr _ _) (by simp [Value.oneCell']) (by unfold maxLen; omega) (by omega) (by simp <;> omega) ?_); intro v' w1 hown' hgrow _; have hb1 := below_append hb hsz HR.out hgrow; have hc1 := (hb1.cell (p := ⟨b, off + k, none⟩) hbl).trans hc0)
          go_roundw
          case rel => exact ⟨k + 1, at_ + m, _, by omega, by omega, by go_num, by go_num, by simp <;> omega, HE, by rw [cellsOf_snoc, List.length_append]; exact hown', hb1⟩
          case measure => simp [intOf]; omega
    · have HE := Lib.hid (HG.out.trans (by rw [List.drop_of_length_le (by rw [HN.out.1]; omega), rowGo, List.append_nil]))
      obtain rfl : len = k := by omega
      go_wp2
      go_ret2
      exact RRow_ok HE.out HR.out hb
end Go.Proofs.Ytlchbjocemegbaa
