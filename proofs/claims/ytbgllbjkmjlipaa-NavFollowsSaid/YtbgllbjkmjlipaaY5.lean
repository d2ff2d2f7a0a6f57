/- The arguments of the statements, opened: a way. -/
import Derived.Test.YtbgllbjkmjlipaaY2
import Derived.Test.YtbgllbjkmjlipaaY3
namespace Go.Proofs.Ytbgllbjkmjlipaa
open Go.ChangeShapes Go.WideShapes Go.ChangeAt Go.RowKit Go.Joins Go.Deep

theorem Try.und77 : ∃ f0 f1 f2 : Field, Try.prog.underlying 77 = some (.struct #[f0, f1, f2]) ∧ f0.type = 22 ∧ f1.type = 3 ∧ f2.type = 3 ∧ f0.offset = 0 ∧ f1.offset = 1 ∧ f2.offset = 2 := ⟨_, _, _, Try.underlying77, rfl, rfl, rfl, rfl, rfl, rfl⟩
set_option maxRecDepth 100000 in
theorem open_way {H : Type} {enc : TypeId × Value → H} {w : World} {base : Nat} {r : Reach} {b0 : Nat} {held : Bool} {v : Value} {d : DataW H} {p : List MemPlace}
    (hv : Value.okWide Try.prog w r b0 77 v) (h : DataW.Trod enc Try.prog w base (fun _ => true) held 77 v d p) :
    ∃ A n cap nx near ns, v = .agg #[.slice A n cap, .int .i64 nx, .int .i64 near] ∧ Nbs w w.heap.size A n ns := by
  have e3 : Try.prog.cellsOf 77 = 3 := by kernel_rfl
  have e22 : Try.prog.cellsOf 22 = 1 := by kernel_rfl
  have e1 : Try.prog.cellsOf 3 = 1 := by kernel_rfl
  have e24 : Try.prog.cellsOf 24 = 3 := by kernel_rfl
  obtain ⟨f0, f1, f2, hu, t0, t1, t2, o0, o1, o2⟩ := Try.und77
  obtain ⟨cs, rfl, hsz⟩ := okWide_struct hu hv
  obtain ⟨l⟩ := cs
  obtain ⟨fuel, hf⟩ := h
  match l, hsz.trans e3 with
  | [c0, c1, c2], _ =>
    obtain ⟨y0, y1, y2, m, _, _, h0, h1, h2⟩ := trod_struct3 hu hf
    rw [t0, o0, e22] at h0
    rw [t1, o1, e1] at h1
    rw [t2, o2, e1] at h2
    simp at h0 h1 h2
    obtain ⟨a, ha, _, _⟩ := DataW.trod_int Try.underlying3 h1
    obtain ⟨b, hb, _, _⟩ := DataW.trod_int Try.underlying3 h2
    have ea := list1 ha
    have eb := list1 hb
    subst ea eb
    rcases open_slice Try.underlying22 h0 with ⟨hcs, _⟩ | ⟨a', n', cap', m', k, D, Pl, hcs, _, hl, _, hm, _, hx⟩
    · have ec := list1 hcs
      subst ec
      exact ⟨none, 0, 0, a, b, [], rfl, rfl, fun k hk => by omega⟩
    · have ec := list1 hcs
      subst ec
      rw [if_pos rfl] at hm
      have each : ∀ i, i < n' → ∃ q : N3, w.cell? (a'.add (i * 3)) = some (.int .i64 q.1) ∧ w.cell? (a'.add (i * 3 + 1)) = some (.int .i64 q.2.1) ∧ w.cell? (a'.add (i * 3 + 2)) = some (.int .i64 q.2.2) := fun i hi => by
        obtain ⟨cs', h1, h2⟩ := hx i (by omega)
        rw [e24] at h1
        obtain ⟨_, hlen, hcell⟩ := World.cells?_some h1
        match cs', hlen with
        | [c0, c1, c2], _ =>
          obtain ⟨x, y, z, rfl, rfl, rfl⟩ := trod_nb h2
          have g0 := hcell 0 (by omega)
          have g1 := hcell 1 (by omega)
          have g2 := hcell 2 (by omega)
          rw [add_add] at g0 g1 g2
          exact ⟨(x, y, z), by simpa using g0, by simpa using g1, by simpa using g2⟩
      obtain ⟨q, hq⟩ := choose_lt each
      refine ⟨some a', n', cap', a, b, (List.range n').map q, rfl, by simp, fun k hk => ?_⟩
      have hn : nat_ ((List.range n').map q) k = q k := by simp [nat_, hk]
      obtain ⟨g0, g1, g2⟩ := hq k hk
      rw [hn]
      obtain ⟨bb, off, spot⟩ := a'
      have hspot : spot = none := by simpa [Addr.add] using World.cell?_spot (hq 0 (by omega)).1
      subst hspot
      rw [add_plain] at g0 g1 g2
      exact ⟨bb, off, rfl, World.block_lt_of_cell? w _ g0, g0, by rw [Nat.add_assoc]; exact g1, by rw [Nat.add_assoc]; exact g2⟩
end Go.Proofs.Ytbgllbjkmjlipaa
