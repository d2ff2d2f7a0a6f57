/- The arguments of the statements, opened: a field, two fields, two words, a slice of numbers, a slice of words. -/
import Derived.Test.YtlchbjocemegbaaFrame
import Derived.Test.YtlchbjocemegbaaM
import Derived.Lib.SmallJoins
namespace Go.Proofs.Ytlchbjocemegbaa
open Go.ChangeShapes Go.WideShapes Go.ChangeAt Go.RowKit Go.Joins

theorem list1 {α : Type} {c c' : α} (h : [c] = [c']) : c = c' := by simpa using h
theorem open_fld {H : Type} {enc : TypeId × Value → H} {w : World} {base : Nat} {r : Reach} {b0 : Nat} {spare : Nat → Bool} {held : Bool} {v : Value} {d : DataW H} {p : List MemPlace}
    (hv : Value.okWide Try.prog w r b0 23 v) (h : DataW.Trod enc Try.prog w base spare held 23 v d p) : ∃ a l : Int, v = fld a l := by
  obtain ⟨c0, c1, y0, y1, m, rfl, rfl, rfl, hy0, hy1⟩ := open_agg2 Try.underlying23 (by kernel_rfl) (by kernel_rfl) hv h
  obtain ⟨a, e0, _, wa⟩ := DataW.trod_int Try.underlying3 hy0
  obtain ⟨b, e1, _, wb⟩ := DataW.trod_int Try.underlying3 hy1
  exact ⟨a, b, by rw [list1 e0, list1 e1]⟩
theorem ints_nums {w : World} {k : IntKind} {a : Addr} {n cap : Nat} {zs : List Int} (hl : n ≤ cap) (hz : zs.length = cap) (hc : ∀ i, i < zs.length → w.cell? (a.add i) = some (.int k (zs.getD i 0))) :
    (zs.take n).length = n ∧ ∀ i, i < n → ∃ b off, some a = some ⟨b, off, none⟩ ∧ b < w.heap.size ∧ w.cell? ⟨b, off + i, none⟩ = some (.int k ((zs.take n)[i]?.getD 0)) := by
  refine ⟨by simp; omega, fun i hi => ?_⟩
  obtain ⟨b, off, rfl, h⟩ := ints_at hc (by omega)
  have hi' := h i (by omega)
  refine ⟨b, off, rfl, ?_, ?_⟩
  · exact World.block_lt_of_cell? w _ hi'
  · rw [hi', List.getElem?_take_of_lt hi]; rfl
theorem u64_bd {a : Int} (h : (Lit.int .u64 a).wf = true) : 0 ≤ a ∧ a < 18446744073709551616 := by
  simp [Lit.wf, IntKind.min, IntKind.max, IntKind.bits, IntKind.signed] at h; omega
theorem i64_bd {a : Int} (h : (Lit.int .i64 a).wf = true) : -9223372036854775808 ≤ a ∧ a ≤ 9223372036854775807 := by
  simp [Lit.wf, IntKind.min, IntKind.max, IntKind.bits, IntKind.signed] at h; omega
theorem u64_nat {n : Int} (h : (Lit.int .u64 n).wf = true) : ∃ x : Nat, n = x ∧ x < 18446744073709551616 := by
  have := u64_bd h
  exact ⟨n.toNat, by omega, by omega⟩
theorem open_nums {H : Type} {enc : TypeId × Value → H} {w : World} {base : Nat} {r : Reach} {b0 : Nat} {held : Bool} {v : Value} {d : DataW H} {p : List MemPlace}
    (hv : Value.okWide Try.prog w r b0 44 v) (h : DataW.Trod enc Try.prog w base (fun _ => true) held 44 v d p) : ∃ A n cap zs, v = .slice A n cap ∧ Nums w w.heap.size A n zs ∧ n ≤ maxLen := by
  obtain ⟨A, n, cap, rfl⟩ := okWide_slice Try.underlying44 hv
  obtain ⟨fuel, hf⟩ := h
  rcases open_ints Try.underlying44 Try.underlying3 (by kernel_rfl) hf with ⟨hcs, _⟩ | ⟨a, n', cap', zs, hcs, _, hl, hm, hz, _, hc, _⟩
  · simp [Value.cells] at hcs
    obtain ⟨rfl, rfl, rfl⟩ := hcs
    exact ⟨none, 0, 0, [], rfl, ⟨rfl, fun k hk => by omega⟩, by unfold maxLen; omega⟩
  · simp [Value.cells] at hcs
    obtain ⟨rfl, rfl, rfl⟩ := hcs
    exact ⟨_, n, cap, zs.take n, rfl, ints_nums hl (by simpa using hz) hc, by omega⟩
theorem open_words {H : Type} {enc : TypeId × Value → H} {w : World} {base : Nat} {r : Reach} {b0 : Nat} {held : Bool} {v : Value} {d : DataW H} {p : List MemPlace}
    (hv : Value.okWide Try.prog w r b0 56 v) (h : DataW.Trod enc Try.prog w base (fun _ => true) held 56 v d p) : ∃ A n cap xs, v = .slice A n cap ∧ Wrds w w.heap.size A n xs ∧ n ≤ maxLen ∧ ∀ y ∈ xs, y < 18446744073709551616 := by
  obtain ⟨A, n, cap, rfl⟩ := okWide_slice Try.underlying56 hv
  obtain ⟨fuel, hf⟩ := h
  rcases open_ints Try.underlying56 Try.underlying24 (by kernel_rfl) hf with ⟨hcs, _⟩ | ⟨a, n', cap', zs, hcs, _, hl, hm, hz, _, hc, hwf⟩
  · simp [Value.cells] at hcs
    obtain ⟨rfl, rfl, rfl⟩ := hcs
    exact ⟨none, 0, 0, [], rfl, ⟨rfl, fun k hk => by omega⟩, by unfold maxLen; omega, by simp⟩
  · simp [Value.cells] at hcs
    obtain ⟨rfl, rfl, rfl⟩ := hcs
    obtain ⟨h1, h2⟩ := ints_nums hl (by simpa using hz) hc
    have hb : ∀ z ∈ zs.take n, 0 ≤ z ∧ z < 18446744073709551616 := fun z hz => u64_bd (hwf z (List.mem_of_mem_take hz))
    refine ⟨_, n, cap, (zs.take n).map Int.toNat, rfl, ⟨by simpa using h1, fun k hk => ?_⟩, by omega, fun y hy => ?_⟩
    · obtain ⟨b, off, e, hlt, hcell⟩ := h2 k hk
      refine ⟨b, off, e, hlt, ?_⟩
      rw [hcell]
      have hk' : k < (zs.take n).length := by omega
      have := hb _ (List.getElem_mem hk')
      generalize zs.take n = l at hk' this
      simp only [List.getElem?_map, List.getElem?_eq_getElem hk', Option.map_some, Option.getD_some]
      congr 2; omega
    · obtain ⟨z, hz, rfl⟩ := List.mem_map.1 hy
      have := hb z hz
      omega
theorem okWide_array {P : Program} {w : World} {r : Reach} {base : Nat} {t : TypeId} {v : Value} {n : Nat} {e : TypeId} (ht : P.underlying t = some (.array n e)) (h : Value.okWide P w r base t v) : ∃ cs, v = .agg cs ∧ cs.size = P.cellsOf t := by
  simp only [Value.okWide, ht] at h
  obtain ⟨cs, h1, h2, _⟩ := h
  exact ⟨cs, h1, h2⟩
theorem open_pair {H : Type} {enc : TypeId × Value → H} {w : World} {base : Nat} {r : Reach} {b0 : Nat} {spare : Nat → Bool} {held : Bool} {v : Value} {d : DataW H} {p : List MemPlace}
    (hv : Value.okWide Try.prog w r b0 42 v) (h : DataW.Trod enc Try.prog w base spare held 42 v d p) :
    ∃ a b : Nat, v = .agg #[.int .u64 a, .int .u64 b] ∧ a < 18446744073709551616 ∧ b < 18446744073709551616 := by
  have e2 : Try.prog.cellsOf 42 = 2 := by kernel_rfl
  have e1 : Try.prog.cellsOf 24 = 1 := by kernel_rfl
  obtain ⟨cs, rfl, hsz⟩ := okWide_array Try.underlying42 hv
  obtain ⟨l⟩ := cs
  obtain ⟨fuel, hf⟩ := h
  obtain ⟨xs, m, _, _, hl, hxl, hi⟩ := DataW.trod_array Try.underlying42 hf
  match l, hsz.trans e2 with
  | [c0, c1], _ =>
    match xs, hxl with
    | [y0, y1], _ =>
      have g0 := hi 0 (by omega)
      have g1 := hi 1 (by omega)
      rw [e1] at g0 g1
      simp [Value.cells] at g0 g1
      obtain ⟨a, ha, _, wa⟩ := DataW.trod_int Try.underlying24 g0
      obtain ⟨b, hb, _, wb⟩ := DataW.trod_int Try.underlying24 g1
      obtain ⟨a', rfl, ba⟩ := u64_nat wa
      obtain ⟨b', rfl, bb⟩ := u64_nat wb
      exact ⟨a', b', by rw [list1 ha, list1 hb], ba, bb⟩
theorem open_flds {H : Type} {enc : TypeId × Value → H} {w : World} {base : Nat} {r : Reach} {b0 : Nat} {spare : Nat → Bool} {held : Bool} {v : Value} {d : DataW H} {p : List MemPlace}
    (hv : Value.okWide Try.prog w r b0 41 v) (h : DataW.Trod enc Try.prog w base spare held 41 v d p) :
    ∃ a l b m : Int, v = .agg #[.int .i64 a, .int .i64 l, .int .i64 b, .int .i64 m] ∧ (Lit.int .i64 a).wf = true ∧ (Lit.int .i64 b).wf = true := by
  have e2 : Try.prog.cellsOf 41 = 4 := by kernel_rfl
  have e1 : Try.prog.cellsOf 23 = 2 := by kernel_rfl
  obtain ⟨cs, rfl, hsz⟩ := okWide_array Try.underlying41 hv
  obtain ⟨l⟩ := cs
  obtain ⟨fuel, hf⟩ := h
  obtain ⟨xs, m, _, _, hl, hxl, hi⟩ := DataW.trod_array Try.underlying41 hf
  match l, hsz.trans e2 with
  | [c0, c1, c2, c3], _ =>
    match xs, hxl with
    | [y0, y1], _ =>
      have g0 := hi 0 (by omega)
      have g1 := hi 1 (by omega)
      rw [e1] at g0 g1
      simp [Value.cells] at g0 g1
      obtain ⟨y00, y01, n, hx, _, h0, h1⟩ := trod_struct2 Try.underlying23 g0
      obtain ⟨y10, y11, n', hx', _, h2, h3⟩ := trod_struct2 Try.underlying23 g1
      have e3 : Try.prog.cellsOf 3 = 1 := by kernel_rfl
      simp [e3] at h0 h1 h2 h3
      obtain ⟨a, ha, _, wa⟩ := DataW.trod_int Try.underlying3 h0
      obtain ⟨l, hl', _, wl⟩ := DataW.trod_int Try.underlying3 h1
      obtain ⟨b, hb, _, wb⟩ := DataW.trod_int Try.underlying3 h2
      obtain ⟨m', hm, _, wm⟩ := DataW.trod_int Try.underlying3 h3
      exact ⟨a, l, b, m', by rw [list1 ha, list1 hl', list1 hb, list1 hm], wa, wb⟩
end Go.Proofs.Ytlchbjocemegbaa
