/- The arguments of the statements, opened: a number, a place. -/
import Derived.Test.YtbgllbjkmjlipaaW
import Derived.Lib.SmallJoins
import Derived.Deep.Strs
namespace Go.Proofs.Ytbgllbjkmjlipaa
open Go.ChangeShapes Go.WideShapes Go.ChangeAt Go.RowKit Go.Joins Go.Deep

theorem list1 {α : Type} {c c' : α} (h : [c] = [c']) : c = c' := by simpa using h
theorem Try.und24 : ∃ f0 f1 f2 : Field, Try.prog.underlying 24 = some (.struct #[f0, f1, f2]) ∧ f0.type = 3 ∧ f1.type = 3 ∧ f2.type = 3 ∧ f0.offset = 0 ∧ f1.offset = 1 ∧ f2.offset = 2 := ⟨_, _, _, Try.underlying24, rfl, rfl, rfl, rfl, rfl, rfl⟩
set_option maxRecDepth 100000 in
theorem trod_nb {H : Type} {enc : TypeId × Value → H} {w : World} {base n : Nat} {spare : Nat → Bool} {held : Bool} {c0 c1 c2 : Value} {x : DataW H × List MemPlace}
    (h : DataW.trod enc Try.prog w base spare held n 24 [c0, c1, c2] = some x) : ∃ a b c : Int, c0 = .int .i64 a ∧ c1 = .int .i64 b ∧ c2 = .int .i64 c := by
  have e3 : Try.prog.cellsOf 3 = 1 := by kernel_rfl
  obtain ⟨f0, f1, f2, hu, t0, t1, t2, o0, o1, o2⟩ := Try.und24
  obtain ⟨y0, y1, y2, m, _, _, h0, h1, h2⟩ := trod_struct3 hu h
  rw [t0, o0, e3] at h0
  rw [t1, o1, e3] at h1
  rw [t2, o2, e3] at h2
  simp at h0 h1 h2
  obtain ⟨a, ha, _, _⟩ := DataW.trod_int Try.underlying3 h0
  obtain ⟨b, hb, _, _⟩ := DataW.trod_int Try.underlying3 h1
  obtain ⟨c, hc, _, _⟩ := DataW.trod_int Try.underlying3 h2
  exact ⟨a, b, c, list1 ha, list1 hb, list1 hc⟩
set_option maxRecDepth 100000 in
theorem open_nb {H : Type} {enc : TypeId × Value → H} {w : World} {base : Nat} {r : Reach} {b0 : Nat} {spare : Nat → Bool} {held : Bool} {v : Value} {d : DataW H} {p : List MemPlace}
    (hv : Value.okWide Try.prog w r b0 24 v) (h : DataW.Trod enc Try.prog w base spare held 24 v d p) : ∃ a b c : Int, v = nb a b c := by
  have e3 : Try.prog.cellsOf 24 = 3 := by kernel_rfl
  obtain ⟨f0, f1, f2, hu, _⟩ := Try.und24
  obtain ⟨cs, rfl, hsz⟩ := okWide_struct hu hv
  obtain ⟨l⟩ := cs
  obtain ⟨fuel, hf⟩ := h
  match l, hsz.trans e3 with
  | [c0, c1, c2], _ =>
    obtain ⟨a, b, c, rfl, rfl, rfl⟩ := trod_nb hf
    exact ⟨a, b, c, rfl⟩
theorem Try.und43 : ∃ f0 f1 f2 : Field, Try.prog.underlying 43 = some (.struct #[f0, f1, f2]) ∧ f0.type = 24 ∧ f1.type = 24 ∧ f2.type = 24 ∧ f0.offset = 0 ∧ f1.offset = 3 ∧ f2.offset = 6 := ⟨_, _, _, Try.underlying43, rfl, rfl, rfl, rfl, rfl, rfl⟩
set_option maxRecDepth 100000 in
theorem open_place {H : Type} {enc : TypeId × Value → H} {w : World} {base : Nat} {r : Reach} {b0 : Nat} {spare : Nat → Bool} {held : Bool} {v : Value} {d : DataW H} {p : List MemPlace}
    (hv : Value.okWide Try.prog w r b0 43 v) (h : DataW.Trod enc Try.prog w base spare held 43 v d p) :
    ∃ re0 im0 k0 re1 im1 k1 re2 im2 k2 : Int, v = .agg #[.int .i64 re0, .int .i64 im0, .int .i64 k0, .int .i64 re1, .int .i64 im1, .int .i64 k1, .int .i64 re2, .int .i64 im2, .int .i64 k2] := by
  have e3 : Try.prog.cellsOf 24 = 3 := by kernel_rfl
  have e9 : Try.prog.cellsOf 43 = 9 := by kernel_rfl
  obtain ⟨f0, f1, f2, hu, t0, t1, t2, o0, o1, o2⟩ := Try.und43
  obtain ⟨cs, rfl, hsz⟩ := okWide_struct hu hv
  obtain ⟨l⟩ := cs
  obtain ⟨fuel, hf⟩ := h
  match l, hsz.trans e9 with
  | [c0, c1, c2, c3, c4, c5, c6, c7, c8], _ =>
    obtain ⟨y0, y1, y2, m, _, _, h0, h1, h2⟩ := trod_struct3 hu hf
    rw [t0, o0, e3] at h0
    rw [t1, o1, e3] at h1
    rw [t2, o2, e3] at h2
    simp at h0 h1 h2
    obtain ⟨a0, b0, d0, rfl, rfl, rfl⟩ := trod_nb h0
    obtain ⟨a1, b1, d1, rfl, rfl, rfl⟩ := trod_nb h1
    obtain ⟨a2, b2, d2, rfl, rfl, rfl⟩ := trod_nb h2
    exact ⟨a0, b0, d0, a1, b1, d1, a2, b2, d2, rfl⟩
end Go.Proofs.Ytbgllbjkmjlipaa
