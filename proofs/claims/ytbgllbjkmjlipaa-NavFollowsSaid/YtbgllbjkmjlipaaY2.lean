/- The arguments of the statements, opened: two numbers, a move. -/
import Derived.Test.YtbgllbjkmjlipaaY
namespace Go.Proofs.Ytbgllbjkmjlipaa
open Go.ChangeShapes Go.WideShapes Go.ChangeAt Go.RowKit Go.Joins Go.Deep

theorem okWide_array {P : Program} {w : World} {r : Reach} {base : Nat} {t : TypeId} {v : Value} {n : Nat} {e : TypeId} (ht : P.underlying t = some (.array n e)) (h : Value.okWide P w r base t v) : ∃ cs, v = .agg cs ∧ cs.size = P.cellsOf t := by
  simp only [Value.okWide, ht] at h
  obtain ⟨cs, h1, h2, _⟩ := h
  exact ⟨cs, h1, h2⟩
set_option maxRecDepth 100000 in
theorem open_two {H : Type} {enc : TypeId × Value → H} {w : World} {base : Nat} {r : Reach} {b0 : Nat} {spare : Nat → Bool} {held : Bool} {v : Value} {d : DataW H} {p : List MemPlace}
    (hv : Value.okWide Try.prog w r b0 57 v) (h : DataW.Trod enc Try.prog w base spare held 57 v d p) :
    ∃ ra ia ka rb ib kb : Int, v = .agg #[.int .i64 ra, .int .i64 ia, .int .i64 ka, .int .i64 rb, .int .i64 ib, .int .i64 kb] := by
  have e6 : Try.prog.cellsOf 57 = 6 := by kernel_rfl
  have e3 : Try.prog.cellsOf 24 = 3 := by kernel_rfl
  obtain ⟨cs, rfl, hsz⟩ := okWide_array Try.underlying57 hv
  obtain ⟨l⟩ := cs
  obtain ⟨fuel, hf⟩ := h
  obtain ⟨xs, m, _, _, hl, hxl, hi⟩ := DataW.trod_array Try.underlying57 hf
  match l, hsz.trans e6 with
  | [c0, c1, c2, c3, c4, c5], _ =>
    match xs, hxl with
    | [y0, y1], _ =>
      have g0 := hi 0 (by omega)
      have g1 := hi 1 (by omega)
      rw [e3] at g0 g1
      simp [Value.cells] at g0 g1
      obtain ⟨a, b, c, rfl, rfl, rfl⟩ := trod_nb g0
      obtain ⟨a', b', c', rfl, rfl, rfl⟩ := trod_nb g1
      exact ⟨a, b, c, a', b', c', rfl⟩
theorem Try.und67 : ∃ f0 f1 f2 : Field, Try.prog.underlying 67 = some (.struct #[f0, f1, f2]) ∧ f0.type = 24 ∧ f1.type = 3 ∧ f2.type = 3 ∧ f0.offset = 0 ∧ f1.offset = 3 ∧ f2.offset = 4 := ⟨_, _, _, Try.underlying67, rfl, rfl, rfl, rfl, rfl, rfl⟩
set_option maxRecDepth 100000 in
theorem open_move {H : Type} {enc : TypeId × Value → H} {w : World} {base : Nat} {r : Reach} {b0 : Nat} {spare : Nat → Bool} {held : Bool} {v : Value} {d : DataW H} {p : List MemPlace}
    (hv : Value.okWide Try.prog w r b0 67 v) (h : DataW.Trod enc Try.prog w base spare held 67 v d p) :
    ∃ re im kd wt mo : Int, v = .agg #[.int .i64 re, .int .i64 im, .int .i64 kd, .int .i64 wt, .int .i64 mo] := by
  have e5 : Try.prog.cellsOf 67 = 5 := by kernel_rfl
  have e3 : Try.prog.cellsOf 24 = 3 := by kernel_rfl
  have e1 : Try.prog.cellsOf 3 = 1 := by kernel_rfl
  obtain ⟨f0, f1, f2, hu, t0, t1, t2, o0, o1, o2⟩ := Try.und67
  obtain ⟨cs, rfl, hsz⟩ := okWide_struct hu hv
  obtain ⟨l⟩ := cs
  obtain ⟨fuel, hf⟩ := h
  match l, hsz.trans e5 with
  | [c0, c1, c2, c3, c4], _ =>
    obtain ⟨y0, y1, y2, m, _, _, h0, h1, h2⟩ := trod_struct3 hu hf
    rw [t0, o0, e3] at h0
    rw [t1, o1, e1] at h1
    rw [t2, o2, e1] at h2
    simp at h0 h1 h2
    obtain ⟨a0, b0, d0, rfl, rfl, rfl⟩ := trod_nb h0
    obtain ⟨a, ha, _, _⟩ := DataW.trod_int Try.underlying3 h1
    obtain ⟨b, hb, _, _⟩ := DataW.trod_int Try.underlying3 h2
    exact ⟨a0, b0, d0, a, b, by rw [list1 ha, list1 hb]⟩
end Go.Proofs.Ytbgllbjkmjlipaa
