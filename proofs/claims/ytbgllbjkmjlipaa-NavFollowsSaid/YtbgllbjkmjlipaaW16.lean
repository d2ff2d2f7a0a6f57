/- Follow in the law's words: with points and a place of any kind; once more with what it told. -/
import Derived.Test.YtbgllbjkmjlipaaW15
namespace Go.Proofs.Ytbgllbjkmjlipaa
open Go.RowKit Go.Shelf

section
variable {W : World} {base n cap : Nat} {ns : List N3} {x y : Nat} {a b nx near : Int} {A : Option Addr}
theorem pts_own {xs : List (Nat × Nat)} (hxl : xs.length = n) (hr : W.ownsRow base 31 1 (.slice A n cap) n (xs.map cxv)) : Pts W W.heap.size A n (fun k => cx (pat xs k).1 (pat xs k).2) := fun k hk => by
  obtain ⟨g, cap', e, _, hg, hc⟩ := own_cells hr (by omega)
  cases e
  refine ⟨g, 0, rfl, hg, ?_⟩
  rw [Nat.zero_add]
  refine hc k _ ?_
  rw [List.getElem?_map, List.getElem?_eq_getElem (by omega)]
  simp [pat, cxv, List.getElem?_eq_getElem (show k < xs.length by omega)]
theorem pts_list {f : Nat → Int × Int} (hf : ∀ k, k < n → (f k).1.natAbs < 1048576 ∧ (f k).2.natAbs < 1048576) (hr : W.ownsRow base 31 1 (.slice A n cap) n ((listOf f n).map gval)) : Pts W W.heap.size A n (fun k => cx (wd false (f k).1) (wd false (f k).2)) := fun k hk => by
  obtain ⟨g, cap', e, _, hg, hc⟩ := own_cells hr (by omega)
  cases e
  refine ⟨g, 0, rfl, hg, ?_⟩
  rw [Nat.zero_add]
  refine hc k _ ?_
  show _ = some (cx (wd false (f k).1) (wd false (f k).2))
  rw [← gval_gpz (hf k hk)]
  simp [listOf, hk]
theorem follow_err {xs : List (Nat × Nat)} (hn : n ≤ 100) (hxl : xs.length = n) (hx : ∀ k, k < n → NumAt xs ns k) (hr : W.ownsRow base 31 1 (.slice A n cap) n (xs.map cxv)) (hz : Num x y a b) (c : Int)
    (hc : (c = 1 ∧ (nx < 0 ∨ (n : Int) ≤ nx)) ∨ (c = 10 ∧ 0 ≤ nx ∧ nx < n ∧ (rAll ns n && rightB a b && decide (0 ≤ near)) = false)) :
    Calls Try.prog 38 #[.agg #[.slice A n cap, .int .i64 nx, .int .i64 near], cx x y] W fun e w' => e = .returned (.tuple #[cx 0 0, .agg #[.slice none 0 0, .int .i64 0, .int .i64 0], .int .i64 c]) ∧ Below W.heap.size W w' := by
  rcases hc with ⟨rfl, h⟩ | ⟨rfl, h0, h1, h⟩
  · exact follow_arg A n cap nx near x y h W
  · exact follow_range A n cap nx near x y (fun k => (pat xs k).1) (fun k => (pat xs k).2) hn h0 h1 (by rw [all_num hx, num_may hz]; exact h) W (pts_own hxl hr)
theorem own_shape {w' : World} {B : Nat} {v : Value} {l : List Value} (hn : 1 ≤ n) (h : w'.ownsRow B 31 1 v n l) : ∃ g c, v = .slice (some ⟨g, 0, none⟩) n c ∧ B ≤ g ∧ w'.ownsRow B 31 1 (.slice (some ⟨g, 0, none⟩) n c) n l := by
  obtain ⟨g, c, rfl, hg, _, _⟩ := own_cells h hn
  exact ⟨g, c, rfl, hg, h⟩
/-- Which point is next. -/
def folK (f : Nat → Int × Int) (near a b : Int) (n k0 : Nat) : Nat := folF (nearF f near a b) (n - 1 - k0) k0
theorem folK_lt {f : Nat → Int × Int} {near a b : Int} {n k0 : Nat} (h : k0 < n) : folK f near a b n k0 < n := by
  have := folF_lt (F := nearF f near a b) (n - 1 - k0) k0
  unfold folK
  omega
theorem folK_stays (f : Nat → Int × Int) (near a b : Int) (n k0 : Nat) : folK f near a b n (folK f near a b n k0) = folK f near a b n k0 := folF_stays _ _ _ _ rfl
theorem follow_again {f : Nat → Int × Int} (hn : n ≤ 100) (hf : ∀ k, k < n → rightB (f k).1 (f k).2 = true) (hr : W.ownsRow base 31 1 (.slice A n cap) n ((listOf f n).map gval)) (hz : rightB a b = true) (k0 : Nat) (hk0 : k0 < n) (h0 : 0 ≤ near) :
    Calls Try.prog 38 #[.agg #[.slice A n cap, .int .i64 k0, .int .i64 near], cx (wd false a) (wd false b)] W fun e w' => ∃ g c, e = .returned (.tuple #[cx (wd false (f (folK f near a b n k0)).1) (wd false (f (folK f near a b n k0)).2), .agg #[.slice (some ⟨g, 0, none⟩) n c, .int .i64 (folK f near a b n k0), .int .i64 near], .int .i64 0]) ∧ W.heap.size ≤ g ∧ w'.ownsRow W.heap.size 31 1 (.slice (some ⟨g, 0, none⟩) n c) n ((listOf f n).map gval) ∧ Below W.heap.size W w' := by
  refine (follow_ok A n cap k0 near a b f hn hk0 h0 hz hf W (pts_list (fun k hk => right_bd (hf k hk)) hr)).mono ?_
  rintro e w' ⟨v, rfl, ho, hb⟩
  obtain ⟨g, c, rfl, hg, ho2⟩ := own_shape (by omega) ho
  exact ⟨g, c, rfl, hg, ho2, hb⟩
theorem num_list {xs : List (Nat × Nat)} (hxl : xs.length = n) (hx : ∀ k, k < n → NumAt xs ns k) (ha : rAll ns n = true) : xs.map cxv = (listOf (fzs ns) n).map gval := by
  apply List.ext_getElem?
  intro j
  by_cases hj : j < n
  · obtain ⟨e1, e2⟩ := num_right (hx j hj) (rAll_at ha hj)
    have hp : pat xs j = xs[j]'(by omega) := by simp [pat, List.getElem?_eq_getElem (show j < xs.length by omega)]
    rw [hp] at e1 e2
    have he : cxv (xs[j]'(by omega)) = gval (gpz (fzs ns j)) := by rw [gval_gpz (p := fzs ns j) (right_bd (rAll_at ha hj))]; unfold cxv; rw [e1, e2]; rfl
    simp [listOf, hj, List.getElem?_eq_getElem (show j < xs.length by omega), he]
  · rw [List.getElem?_eq_none (by simp; omega), List.getElem?_eq_none (by simp [listOf]; omega)]
theorem rfollow_gen {v : Value} (hn : n ≤ 100) (hr : W.ownsRow base 39 2 v n (zcells (plzs ns n))) (ha : rAll ns n = true) (hb : rightB a b = true) (k0 : Nat) (hk0 : k0 < n) :
    Calls Try.prog 39 #[v, .int .i64 k0, .int .i64 near, zz a b] W fun e w' => e = .returned (.int .i64 (folK (fzs ns) near a b n k0)) ∧ Below W.heap.size W w' := by
  obtain ⟨g, cap, rfl, _, hg, hc⟩ := own_cells hr (by omega)
  have hbd := right_bd hb
  refine rfollow_any (some ⟨g, 0, none⟩) n cap (fzs ns) hn k0 hk0 near a b hbd.1 hbd.2 (fun k hk => right_bd (rAll_at ha hk)) W (fun k hk => ⟨g, 0, rfl, hg, ?_, ?_⟩)
  · rw [Nat.zero_add]; exact hc _ _ (zcells_at ns n k hk).1
  · rw [Nat.zero_add]; exact hc _ _ (zcells_at ns n k hk).2
theorem own_zpt {g : Nat} (hr : W.ownsRow base 39 2 (.slice (some ⟨g, 0, none⟩) n cap) n (zcells (plzs ns n))) {k : Nat} (hk : k < n) : W.cell? ⟨g, k * 2, none⟩ = some (.int .i64 (fzs ns k).1) ∧ W.cell? ⟨g, k * 2 + 1, none⟩ = some (.int .i64 (fzs ns k).2) :=
  ⟨by rw [hr.cellAt _ (by omega)]; exact (zcells_at ns n k hk).1, by rw [hr.cellAt _ (by omega)]; exact (zcells_at ns n k hk).2⟩
end
theorem rr79 (W : World) (a b c : Value) : RR W.heap.size 3 79 (W.alloc (.cells #[a, b, c] 79)) := RR.new W #[a, b, c] 79
theorem rr79d (W : World) (a b c : Value) : RR W.heap.size 3 79 (W.alloc (.cells #[a, b, c] 79)).drew := rr79 W a b c
end Go.Proofs.Ytbgllbjkmjlipaa
