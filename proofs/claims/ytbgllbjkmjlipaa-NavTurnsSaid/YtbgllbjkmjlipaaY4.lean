/- The arguments of the statements, opened: a shift. -/
import Derived.Test.YtbgllbjkmjlipaaY2
namespace Go.Proofs.Ytbgllbjkmjlipaa
open Go.ChangeShapes Go.WideShapes Go.ChangeAt Go.RowKit Go.Joins Go.Deep

theorem Try.und62 : ∃ f0 f1 : Field, Try.prog.underlying 62 = some (.struct #[f0, f1]) ∧ f0.type = 3 ∧ f1.type = 24 ∧ f0.offset = 0 ∧ f1.offset = 1 := ⟨_, _, Try.underlying62, rfl, rfl, rfl, rfl⟩
set_option maxRecDepth 100000 in
theorem open_shift {H : Type} {enc : TypeId × Value → H} {w : World} {base : Nat} {r : Reach} {b0 : Nat} {spare : Nat → Bool} {held : Bool} {v : Value} {d : DataW H} {p : List MemPlace}
    (hv : Value.okWide Try.prog w r b0 62 v) (h : DataW.Trod enc Try.prog w base spare held 62 v d p) :
    ∃ fr rb ib kb : Int, v = .agg #[.int .i64 fr, .int .i64 rb, .int .i64 ib, .int .i64 kb] := by
  have e4 : Try.prog.cellsOf 62 = 4 := by kernel_rfl
  have e3 : Try.prog.cellsOf 24 = 3 := by kernel_rfl
  have e1 : Try.prog.cellsOf 3 = 1 := by kernel_rfl
  obtain ⟨f0, f1, hu, t0, t1, o0, o1⟩ := Try.und62
  obtain ⟨cs, rfl, hsz⟩ := okWide_struct hu hv
  obtain ⟨l⟩ := cs
  obtain ⟨fuel, hf⟩ := h
  match l, hsz.trans e4 with
  | [c0, c1, c2, c3], _ =>
    obtain ⟨y0, y1, m, _, _, h0, h1⟩ := trod_struct2 hu hf
    rw [t0, o0, e1] at h0
    rw [t1, o1, e3] at h1
    simp at h0 h1
    obtain ⟨a0, b0, d0, rfl, rfl, rfl⟩ := trod_nb h1
    obtain ⟨a, ha, _, _⟩ := DataW.trod_int Try.underlying3 h0
    exact ⟨a, a0, b0, d0, by rw [list1 ha]⟩
end Go.Proofs.Ytbgllbjkmjlipaa
