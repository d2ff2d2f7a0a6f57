/- The arguments of the statements, opened: a slice of words. -/
import Derived.Test.YtbgllbjkmjlipaaY
import Derived.Test.YtbgllbjkmjlipaaN14
import Derived.Lib.SmallJoins
namespace Go.Proofs.Ytbgllbjkmjlipaa
open Go.ChangeShapes Go.WideShapes Go.ChangeAt Go.RowKit Go.Joins

theorem ints_nums {w : World} {k : IntKind} {a : Addr} {n cap : Nat} {zs : List Int} (hl : n ≤ cap) (hz : zs.length = cap) (hc : ∀ i, i < zs.length → w.cell? (a.add i) = some (.int k (zs.getD i 0))) :
    (zs.take n).length = n ∧ ∀ i, i < n → ∃ b off, some a = some ⟨b, off, none⟩ ∧ b < w.heap.size ∧ w.cell? ⟨b, off + i, none⟩ = some (.int k ((zs.take n)[i]?.getD 0)) := by
  refine ⟨by simp; omega, fun i hi => ?_⟩
  obtain ⟨b, off, rfl, h⟩ := ints_at hc (by omega)
  have hi' := h i (by omega)
  refine ⟨b, off, rfl, ?_, ?_⟩
  · exact World.block_lt_of_cell? w _ hi'
  · rw [hi', List.getElem?_take_of_lt hi]; rfl
theorem u64_bd {a : Int} (h : (Lit.int .u64 a).wf = true) : 0 ≤ a ∧ a < 18446744073709551616 := by
  simp [Lit.wf, IntKind.min, IntKind.max, IntKind.bits, IntKind.signed] at h; omega
set_option maxRecDepth 100000 in
theorem open_words {H : Type} {enc : TypeId × Value → H} {w : World} {base : Nat} {r : Reach} {b0 : Nat} {held : Bool} {v : Value} {d : DataW H} {p : List MemPlace}
    (hv : Value.okWide Try.prog w r b0 86 v) (h : DataW.Trod enc Try.prog w base (fun _ => true) held 86 v d p) : ∃ A n cap x, v = .slice A n cap ∧ Wds w w.heap.size A n x := by
  obtain ⟨A, n, cap, rfl⟩ := okWide_slice Try.underlying86 hv
  obtain ⟨fuel, hf⟩ := h
  rcases open_ints Try.underlying86 Try.underlying119 (by kernel_rfl) hf with ⟨hcs, _⟩ | ⟨a, n', cap', zs, hcs, _, hl, hm, hz, _, hc, hwf⟩
  · simp [Value.cells] at hcs
    obtain ⟨rfl, rfl, rfl⟩ := hcs
    exact ⟨none, 0, 0, fun _ => 0, rfl, fun k hk => by omega⟩
  · simp [Value.cells] at hcs
    obtain ⟨rfl, rfl, rfl⟩ := hcs
    obtain ⟨h1, h2⟩ := ints_nums hl (by simpa using hz) hc
    have hb : ∀ z ∈ zs.take n, 0 ≤ z ∧ z < 18446744073709551616 := fun z hz => u64_bd (hwf z (List.mem_of_mem_take hz))
    refine ⟨_, n, cap, fun k => ((zs.take n)[k]?.getD 0).toNat, rfl, fun k hk => ?_⟩
    obtain ⟨b, off, e, hlt, hcell⟩ := h2 k hk
    have hk' : k < (zs.take n).length := by omega
    have hbk := hb _ (List.getElem_mem hk')
    have hg : (zs.take n)[k]?.getD 0 = (zs.take n)[k] := by rw [List.getElem?_eq_getElem hk']; rfl
    rw [hg] at hcell
    refine ⟨by show ((zs.take n)[k]?.getD 0).toNat < _; rw [hg]; omega, b, off, e, hlt, ?_⟩
    show _ = some (Value.int .u64 ((((zs.take n)[k]?.getD 0).toNat : Nat) : Int))
    rw [hcell, hg]
    congr 2
    omega
end Go.Proofs.Ytbgllbjkmjlipaa
