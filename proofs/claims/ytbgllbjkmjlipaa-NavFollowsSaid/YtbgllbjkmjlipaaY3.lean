/- The arguments of the statements, opened: a slice of numbers. -/
import Derived.Deep.Slices
import Derived.Test.YtbgllbjkmjlipaaY
import Derived.Test.YtbgllbjkmjlipaaW3
namespace Go.Proofs.Ytbgllbjkmjlipaa
open Go.ChangeShapes Go.WideShapes Go.ChangeAt Go.RowKit Go.Joins Go.Deep

set_option maxRecDepth 100000 in
theorem open_nbs {H : Type} {enc : TypeId × Value → H} {w : World} {base : Nat} {r : Reach} {b0 : Nat} {held : Bool} {v : Value} {d : DataW H} {p : List MemPlace}
    (hv : Value.okWide Try.prog w r b0 22 v) (h : DataW.Trod enc Try.prog w base (fun _ => true) held 22 v d p) : ∃ A n cap ns, v = .slice A n cap ∧ Nbs w w.heap.size A n ns := by
  have e3 : Try.prog.cellsOf 24 = 3 := by kernel_rfl
  obtain ⟨A, n, cap, rfl⟩ := okWide_slice Try.underlying22 hv
  obtain ⟨fuel, hf⟩ := h
  rcases open_slice Try.underlying22 hf with ⟨hcs, _⟩ | ⟨a, n', cap', m, k, D, Pl, hcs, _, hl, _, hm, _, hx⟩
  · simp [Value.cells] at hcs
    obtain ⟨rfl, rfl, rfl⟩ := hcs
    exact ⟨none, 0, 0, [], rfl, rfl, fun k hk => by omega⟩
  · simp [Value.cells] at hcs
    obtain ⟨rfl, rfl, rfl⟩ := hcs
    rw [if_pos rfl] at hm
    have each : ∀ i, i < n → ∃ q : N3, w.cell? (a.add (i * 3)) = some (.int .i64 q.1) ∧ w.cell? (a.add (i * 3 + 1)) = some (.int .i64 q.2.1) ∧ w.cell? (a.add (i * 3 + 2)) = some (.int .i64 q.2.2) := fun i hi => by
      obtain ⟨cs', h1, h2⟩ := hx i (by omega)
      rw [e3] at h1
      obtain ⟨_, hlen, hcell⟩ := World.cells?_some h1
      match cs', hlen with
      | [c0, c1, c2], _ =>
        obtain ⟨x, y, z, rfl, rfl, rfl⟩ := trod_nb h2
        have g0 := hcell 0 (by omega)
        have g1 := hcell 1 (by omega)
        have g2 := hcell 2 (by omega)
        rw [add_add] at g0 g1 g2
        exact ⟨(x, y, z), by simpa using g0, by simpa using g1, by simpa using g2⟩
    obtain ⟨q, hq⟩ := choose_lt each
    refine ⟨some a, n, cap, (List.range n).map q, rfl, by simp, fun k hk => ?_⟩
    have hn : nat_ ((List.range n).map q) k = q k := by simp [nat_, hk]
    obtain ⟨g0, g1, g2⟩ := hq k hk
    rw [hn]
    obtain ⟨b, off, spot⟩ := a
    have hspot : spot = none := by simpa [Addr.add] using World.cell?_spot (hq 0 (by omega)).1
    subst hspot
    rw [add_plain] at g0 g1 g2
    exact ⟨b, off, rfl, World.block_lt_of_cell? w _ g0, g0, by rw [Nat.add_assoc]; exact g1, by rw [Nat.add_assoc]; exact g2⟩
end Go.Proofs.Ytbgllbjkmjlipaa
