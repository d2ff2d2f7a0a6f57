/- Four slices that grow, apart from one another; Fence of an owned slice of points. -/
import Derived.Test.YtbgllbjkmjlipaaW9
namespace Go.Proofs.Ytbgllbjkmjlipaa
open Go.RowKit Go.Shelf
attribute [local go_sem] fmt64

def gval (p : GP) : Value := cx (gx p) (gy p)
/-- Four slices of points, each in a block of its own. -/
structure Own4 (B : Nat) (W : World) (a b c d : Value) (la lb lc ld : List Value) : Prop where
  oa : W.ownsRow B 31 1 a la.length la
  ob : W.ownsRow B 31 1 b lb.length lb
  oc : W.ownsRow B 31 1 c lc.length lc
  od : W.ownsRow B 31 1 d ld.length ld
  ab : a.ownBlock ≠ b.ownBlock
  ac : a.ownBlock ≠ c.ownBlock
  ad : a.ownBlock ≠ d.ownBlock
  bc : b.ownBlock ≠ c.ownBlock
  bd : b.ownBlock ≠ d.ownBlock
  cd : c.ownBlock ≠ d.ownBlock
theorem own_lt {W : World} {B n : Nat} {e : TypeId} {v : Value} {l : List Value} (h : W.ownsRow B e 1 v n l) (o : Obj) : v.ownBlock ≠ some (W.alloc o).heap.size := by
  rcases h.2 with ⟨rfl, _⟩ | ⟨g, cap, cur, rfl, _, hh, _⟩
  · simp [Value.ownBlock]
  · have := (Array.getElem?_eq_some_iff.1 hh).1
    simp [Value.ownBlock]
    omega
section
variable {B : Nat} {W W' w2 : World} {a b c d v' : Value} {la lb lc ld : List Value} {u : Value} {o : Obj}
theorem Own4.bel (h : Own4 B W a b c d la lb lc ld) (hb : Below W.heap.size W W') : Own4 B W' a b c d la lb lc ld :=
  ⟨ownsRow_bel h.oa hb, ownsRow_bel h.ob hb, ownsRow_bel h.oc hb, ownsRow_bel h.od hb, h.ab, h.ac, h.ad, h.bc, h.bd, h.cd⟩
theorem own4_appa (h : Own4 B W a b c d la lb lc ld) (hown : w2.ownsRow B 31 1 v' (la.length + 1) (la ++ [u])) (hg : (W.alloc o).grownBy w2 a.ownBlock) (hor : v'.ownBlock = a.ownBlock ∨ v'.ownBlock = some (W.alloc o).heap.size) : Own4 B w2 v' b c d (la ++ [u]) lb lc ld := by
  have kb : w2.ownsRow B 31 1 b lb.length lb := (h.ob.alloc o).kept hg (.inr h.ab.symm)
  have kc : w2.ownsRow B 31 1 c lc.length lc := (h.oc.alloc o).kept hg (.inr h.ac.symm)
  have kd : w2.ownsRow B 31 1 d ld.length ld := (h.od.alloc o).kept hg (.inr h.ad.symm)
  have nb : v'.ownBlock ≠ b.ownBlock := by
    rcases hor with e | e
    · rw [e]; exact h.ab
    · rw [e]; exact (own_lt h.ob o).symm
  have nc : v'.ownBlock ≠ c.ownBlock := by
    rcases hor with e | e
    · rw [e]; exact h.ac
    · rw [e]; exact (own_lt h.oc o).symm
  have nd : v'.ownBlock ≠ d.ownBlock := by
    rcases hor with e | e
    · rw [e]; exact h.ad
    · rw [e]; exact (own_lt h.od o).symm
  exact ⟨(by rw [List.length_append]; exact hown), kb, kc, kd, nb, nc, nd, h.bc, h.bd, h.cd⟩
theorem own4_appb (h : Own4 B W a b c d la lb lc ld) (hown : w2.ownsRow B 31 1 v' (lb.length + 1) (lb ++ [u])) (hg : (W.alloc o).grownBy w2 b.ownBlock) (hor : v'.ownBlock = b.ownBlock ∨ v'.ownBlock = some (W.alloc o).heap.size) : Own4 B w2 a v' c d la (lb ++ [u]) lc ld := by
  have ka : w2.ownsRow B 31 1 a la.length la := (h.oa.alloc o).kept hg (.inr h.ab)
  have kc : w2.ownsRow B 31 1 c lc.length lc := (h.oc.alloc o).kept hg (.inr h.bc.symm)
  have kd : w2.ownsRow B 31 1 d ld.length ld := (h.od.alloc o).kept hg (.inr h.bd.symm)
  have na : v'.ownBlock ≠ a.ownBlock := by
    rcases hor with e | e
    · rw [e]; exact h.ab.symm
    · rw [e]; exact (own_lt h.oa o).symm
  have nc : v'.ownBlock ≠ c.ownBlock := by
    rcases hor with e | e
    · rw [e]; exact h.bc
    · rw [e]; exact (own_lt h.oc o).symm
  have nd : v'.ownBlock ≠ d.ownBlock := by
    rcases hor with e | e
    · rw [e]; exact h.bd
    · rw [e]; exact (own_lt h.od o).symm
  exact ⟨ka, (by rw [List.length_append]; exact hown), kc, kd, na.symm, h.ac, h.ad, nc, nd, h.cd⟩
theorem own4_appc (h : Own4 B W a b c d la lb lc ld) (hown : w2.ownsRow B 31 1 v' (lc.length + 1) (lc ++ [u])) (hg : (W.alloc o).grownBy w2 c.ownBlock) (hor : v'.ownBlock = c.ownBlock ∨ v'.ownBlock = some (W.alloc o).heap.size) : Own4 B w2 a b v' d la lb (lc ++ [u]) ld := by
  have ka : w2.ownsRow B 31 1 a la.length la := (h.oa.alloc o).kept hg (.inr h.ac)
  have kb : w2.ownsRow B 31 1 b lb.length lb := (h.ob.alloc o).kept hg (.inr h.bc)
  have kd : w2.ownsRow B 31 1 d ld.length ld := (h.od.alloc o).kept hg (.inr h.cd.symm)
  have na : v'.ownBlock ≠ a.ownBlock := by
    rcases hor with e | e
    · rw [e]; exact h.ac.symm
    · rw [e]; exact (own_lt h.oa o).symm
  have nb : v'.ownBlock ≠ b.ownBlock := by
    rcases hor with e | e
    · rw [e]; exact h.bc.symm
    · rw [e]; exact (own_lt h.ob o).symm
  have nd : v'.ownBlock ≠ d.ownBlock := by
    rcases hor with e | e
    · rw [e]; exact h.cd
    · rw [e]; exact (own_lt h.od o).symm
  exact ⟨ka, kb, (by rw [List.length_append]; exact hown), kd, h.ab, na.symm, h.ad, nb.symm, h.bd, nd⟩
theorem own4_appd (h : Own4 B W a b c d la lb lc ld) (hown : w2.ownsRow B 31 1 v' (ld.length + 1) (ld ++ [u])) (hg : (W.alloc o).grownBy w2 d.ownBlock) (hor : v'.ownBlock = d.ownBlock ∨ v'.ownBlock = some (W.alloc o).heap.size) : Own4 B w2 a b c v' la lb lc (ld ++ [u]) := by
  have ka : w2.ownsRow B 31 1 a la.length la := (h.oa.alloc o).kept hg (.inr h.ad)
  have kb : w2.ownsRow B 31 1 b lb.length lb := (h.ob.alloc o).kept hg (.inr h.bd)
  have kc : w2.ownsRow B 31 1 c lc.length lc := (h.oc.alloc o).kept hg (.inr h.cd)
  have na : v'.ownBlock ≠ a.ownBlock := by
    rcases hor with e | e
    · rw [e]; exact h.ad.symm
    · rw [e]; exact (own_lt h.oa o).symm
  have nb : v'.ownBlock ≠ b.ownBlock := by
    rcases hor with e | e
    · rw [e]; exact h.bd.symm
    · rw [e]; exact (own_lt h.ob o).symm
  have nc : v'.ownBlock ≠ c.ownBlock := by
    rcases hor with e | e
    · rw [e]; exact h.cd.symm
    · rw [e]; exact (own_lt h.oc o).symm
  exact ⟨ka, kb, kc, (by rw [List.length_append]; exact hown), h.ab, h.ac, na.symm, h.bc, nb.symm, nc.symm⟩
theorem Own4.new (w : World) : Own4 w.heap.size ((((w.alloc (.cells #[] 31)).alloc (.cells #[] 31)).alloc (.cells #[] 31)).alloc (.cells #[] 31)) (.slice (some ⟨w.heap.size, 0, none⟩) 0 0) (.slice (some ⟨w.heap.size + 1, 0, none⟩) 0 0) (.slice (some ⟨w.heap.size + 1 + 1, 0, none⟩) 0 0) (.slice (some ⟨w.heap.size + 1 + 1 + 1, 0, none⟩) 0 0) [] [] [] [] := by
  have h1 := heap_alloc_new w (.cells #[] 31)
  have h2 := heap_alloc_new (w.alloc (.cells #[] 31)) (.cells #[] 31)
  have h3 := heap_alloc_new ((w.alloc (.cells #[] 31)).alloc (.cells #[] 31)) (.cells #[] 31)
  have h4 := heap_alloc_new (((w.alloc (.cells #[] 31)).alloc (.cells #[] 31)).alloc (.cells #[] 31)) (.cells #[] 31)
  simp only [World.size_alloc] at h2 h3 h4
  have mk : ∀ (W : World) (g : Nat), w.heap.size ≤ g → W.heap[g]? = some (.cells #[] 31 (0, 0)) → W.ownsRow w.heap.size 31 1 (.slice (some ⟨g, 0, none⟩) 0 0) 0 [] := fun W g hg hh =>
    ⟨by simp, .inr ⟨g, 0, #[], rfl, hg, hh, Nat.le_refl _, Nat.zero_le _, by simp, by simp⟩⟩
  refine ⟨mk _ _ (Nat.le_refl _) ?_, mk _ _ (by omega) ?_, mk _ _ (by omega) ?_, mk _ _ (by omega) h4, ?_, ?_, ?_, ?_, ?_, ?_⟩
  · rw [Below.heap_alloc _ _ _ (by simp <;> omega), Below.heap_alloc _ _ _ (by simp <;> omega), Below.heap_alloc _ _ _ (by simp)]; exact h1
  · rw [Below.heap_alloc _ _ _ (by simp <;> omega), Below.heap_alloc _ _ _ (by simp)]; exact h2
  · rw [Below.heap_alloc _ _ _ (by simp)]; exact h3
  all_goals (simp [Value.ownBlock] <;> omega)
end
/-- Fence of an owned slice of points. -/
theorem fence_own {W : World} {base m : Nat} {v : Value} {zs : List GP} {f : Nat → Int × Int} (hm : 2 ≤ m) (hm2 : m ≤ 99) (ha : Are zs (m + 1) f) (hr : W.ownsRow base 31 1 v (m + 1) (zs.map gval)) (s t : Bool) (a b : Int) (hz : a.natAbs < 1048576 ∧ b.natAbs < 1048576) :
    Calls Try.prog 12 #[v, cx (wd s a) (wd t b)] W fun e w' => e = .returned (.tuple #[.bool (fenF f (m + 1) a b), .int .i64 0]) ∧ Below W.heap.size W w' := by
  obtain ⟨g, cap, rfl, _, hg, hc⟩ := own_cells hr (by omega)
  have h := callsIn_wide.1 (fence_in g 0 m cap zs ha.1 hm (by omega) ⟨⟨s, a, t, b⟩, hz⟩ W (fun k hk => ⟨g, 0, rfl, hg, by
    rw [Nat.zero_add]
    refine hc k _ ?_
    rw [List.getElem?_map, List.getElem?_eq_getElem hk]
    simp [gat, gval, List.getElem?_eq_getElem hk]⟩))
  rw [fence_same ha] at h
  exact h
end Go.Proofs.Ytbgllbjkmjlipaa
