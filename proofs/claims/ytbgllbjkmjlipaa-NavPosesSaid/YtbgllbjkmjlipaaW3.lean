/- Contracts: points, plains. -/
import Derived.Maps.AppendAt
import Derived.Deep.AppendLies
import Derived.Test.YtbgllbjkmjlipaaW
namespace Go.Proofs.Ytbgllbjkmjlipaa
open Go.RowKit Go.Shelf
attribute [local go_sem] fmt64

/-- A slice of numbers, below block B. -/
abbrev N3 := Int × Int × Int
def nat_ (ns : List N3) (k : Nat) : N3 := ns[k]?.getD (0, 0, 0)
def Nbs (W : World) (B : Nat) (A : Option Addr) (n : Nat) (ns : List N3) : Prop :=
  ns.length = n ∧ ∀ k, k < n → ∃ b off, A = some ⟨b, off, none⟩ ∧ b < B ∧ W.cell? ⟨b, off + k * 3, none⟩ = some (.int .i64 (nat_ ns k).1) ∧ W.cell? ⟨b, off + k * 3 + 1, none⟩ = some (.int .i64 (nat_ ns k).2.1) ∧ W.cell? ⟨b, off + k * 3 + 2, none⟩ = some (.int .i64 (nat_ ns k).2.2)
theorem Nbs.below {W W' : World} {B : Nat} {A : Option Addr} {n : Nat} {ns : List N3} (h : Nbs W B A n ns) (hb : Below B W W') : Nbs W' B A n ns :=
  ⟨h.1, fun k hk => by
    obtain ⟨b, off, e, hlt, h0, h1, h2⟩ := h.2 k hk
    exact ⟨b, off, e, hlt, (hb.cell (p := ⟨b, off + k * 3, none⟩) hlt).trans h0, (hb.cell (p := ⟨b, off + k * 3 + 1, none⟩) hlt).trans h1, (hb.cell (p := ⟨b, off + k * 3 + 2, none⟩) hlt).trans h2⟩⟩
theorem Nbs.more {W : World} {B B' : Nat} {A : Option Addr} {n : Nat} {ns : List N3} (h : Nbs W B A n ns) (hb : B ≤ B') : Nbs W B' A n ns :=
  ⟨h.1, fun k hk => by
    obtain ⟨b, off, e, hlt, h0⟩ := h.2 k hk
    exact ⟨b, off, e, by omega, h0⟩⟩
def plz (t : N3) : Int × Int := (plR t.1 t.2.1 t.2.2, plI t.1 t.2.1 t.2.2)
def cxv (p : Nat × Nat) : Value := cx p.1 p.2
def pat (xs : List (Nat × Nat)) (k : Nat) : Nat × Nat := xs[k]?.getD (0, 0)
theorem ownsRow_bel {W W' : World} {base size n : Nat} {e : TypeId} {v : Value} {xs : List Value} (h : W.ownsRow base e size v n xs) (hb : Below W.heap.size W W') : W'.ownsRow base e size v n xs := by
  refine ⟨h.1, ?_⟩
  rcases h.2 with h0 | ⟨g, cap, cur, hv, hg, hh, hr⟩
  · exact .inl h0
  · exact .inr ⟨g, cap, cur, hv, hg, (hb.block g (Array.getElem?_eq_some_iff.1 hh).1).trans hh, hr⟩
theorem ownsRow_empty (w : World) (e : TypeId) (size : Nat) : (w.alloc (.cells #[] e)).ownsRow w.heap.size e size (.slice (some ⟨w.heap.size, 0, none⟩) 0 0) 0 [] :=
  ⟨by simp, .inr ⟨w.heap.size, 0, #[], rfl, Nat.le_refl _, heap_alloc_new w _, Nat.le_refl _, Nat.zero_le _, by simp, by simp⟩⟩
theorem below_append {B : Nat} {w W w1 : World} {o : Obj} {v : Value} {e : TypeId} {size k : Nat} {xs : List Value} (hb : Below B w W) (hB : B ≤ W.heap.size) (hr : W.ownsRow B e size v k xs) (hg : (W.alloc o).grownBy w1 v.ownBlock) : Below B w w1 :=
  (hb.alloc hB o).grown hg (by simp <;> omega) fun j ej => by
    rcases hr.2 with ⟨rfl, _⟩ | ⟨g, cap, cur, rfl, hb', _, _⟩
    · simp [Value.ownBlock] at ej
    · obtain rfl : g = j := by simpa [Value.ownBlock] using ej
      exact hb'
theorem News1 (W : World) (a : Value) (t : TypeId) : ∀ j u, [a][j]? = some u → (W.alloc (Obj.cells #[a] t)).cell? ((⟨W.heap.size, 0, none⟩ : Addr).add j) = some u :=
  World.news_of_block (cs := #[a]) (t := t) (fr := (0, 0)) (heap_alloc_new W _)
theorem News2 (W : World) (a b : Value) (t : TypeId) : ∀ j u, [a, b][j]? = some u → (W.alloc (Obj.cells #[a, b] t)).cell? ((⟨W.heap.size, 0, none⟩ : Addr).add j) = some u :=
  World.news_of_block (cs := #[a, b]) (t := t) (fr := (0, 0)) (heap_alloc_new W _)
theorem Try.info31 : (Try.prog.info? 31).map (fun i => (i.zero, i.size, i.bytes)) = some (some (.complex .f64 0 0), 1, 16) := by kernel_rfl
theorem Try.info39 : (Try.prog.info? 39).map (fun i => (i.zero, i.size, i.bytes)) = some (some (.agg #[.int .i64 0, .int .i64 0]), 2, 16) := by kernel_rfl
theorem pat_snoc_lt {xs : List (Nat × Nat)} {k : Nat} (h : k < xs.length) (p : Nat × Nat) : pat (xs ++ [p]) k = pat xs k := by simp [pat, List.getElem?_append_left h]
theorem pat_snoc_eq (xs : List (Nat × Nat)) (p : Nat × Nat) : pat (xs ++ [p]) xs.length = p := by simp [pat]
def NumAt (xs : List (Nat × Nat)) (ns : List N3) (k : Nat) : Prop := Num (pat xs k).1 (pat xs k).2 (plz (nat_ ns k)).1 (plz (nat_ ns k)).2

set_option maxRecDepth 100000 in
set_option maxHeartbeats 2000000 in
theorem points_any (A : Option Addr) (n cap : Nat) (ns : List N3) (hn : n ≤ 100) (w : World) (hN : Nbs w w.heap.size A n ns) :
    Calls Try.prog 13 #[.slice A n cap] w fun e w' => ∃ v xs, e = .returned v ∧ xs.length = n ∧ (∀ k, k < n → NumAt xs ns k) ∧ w'.ownsRow w.heap.size 31 1 v n (xs.map cxv) ∧ Below w.heap.size w w' := by
  obtain ⟨i0, hi, hz0, hz1, hz2⟩ := info_parts Try.info31
  have HN := Lib.hid hN
  clear hN
  have hB0 := (Below.refl w.heap.size w).alloc (Nat.le_refl _) (Obj.cells #[] 31)
  have HE := Lib.hid (ownsRow_empty w 31 1)
  go_enter Try.func13, Try.ntmps13
  go_wp2
  go_loopw [3, 4] (fun v i wr => ∃ (k : Nat) (xs : List (Nat × Nat)), k ≤ n ∧ i = .int .i64 k ∧ xs.length = k ∧ Hid (∀ j, j < k → NumAt xs ns j) ∧ Hid (wr.ownsRow w.heap.size 31 1 v k (xs.map cxv)) ∧ Below w.heap.size w wr)
    (fun _ i _ => n - (intOf i).toNat)
  case atStart => exact ⟨0, [], Nat.zero_le _, rfl, rfl, Lib.hid (fun _ h => by omega), HE, hB0⟩
  case round =>
    clear HE hB0
    obtain ⟨k, xs, hk, rfl, hxl, HX, HR, hb⟩ := hrel
    by_cases hlt : k < n
    · obtain ⟨b, off, rfl, hbl, h0, h1, h2⟩ := HN.out.2 k hlt
      have c0 := (hb.cell (p := ⟨b, off + k * 3, none⟩) hbl).trans h0
      have c1 := (hb.cell (p := ⟨b, off + k * 3 + 1, none⟩) hbl).trans h1
      have c2 := (hb.cell (p := ⟨b, off + k * 3 + 2, none⟩) hbl).trans h2
      have hv := value_any (nat_ ns k).1 (nat_ ns k).2.1 (nat_ ns k).2.2
      have hsz := hb.size
      clear h0 h1 h2
      go_wp2_with fail
      refine (hv _).mono ?_
      rintro e w1 ⟨x, y, rfl, hNum, hb1⟩
      have HR1 := Lib.hid (ownsRow_bel HR.out hb1)
      have hb01 := hb.trans (hb1.mono hsz)
      have hsz1 := hb01.size
      have HNu := Lib.hid hNum
      clear hb1 HR hNum c0 c1 c2 hv
      go_wp2_with (at_builtin; go_must (refine wpList_append_own _ rfl _ _ 29 rfl w.heap.size 31 i0 _ 1 16 Try.underlying29 hi hz0 hz1 hz2 rfl (by decide) _ _ _ rfl (HR1.out.alloc _) ⟨w1.heap.size, 0, none⟩ 1 1 [cx x y] rfl rfl (News1 w1 _ _) (by simp [Value.oneCell']) (by unfold maxLen; omega) (by omega) (by simp <;> omega) ?_); intro v' w2 hown' hgrow _; have hb2 := below_append hb01 hsz1 HR1.out hgrow)
      go_roundw
      case rel =>
        refine ⟨k + 1, xs ++ [(x, y)], by omega, by go_num, by simp [hxl], Lib.hid (fun j hj => ?_), Lib.hid (by rw [List.map_append]; exact hown'), hb2⟩
        by_cases c : j < k
        · unfold NumAt; rw [pat_snoc_lt (by omega)]; exact HX.out j c
        · obtain rfl : j = k := by omega
          unfold NumAt; rw [show pat (xs ++ [(x, y)]) j = (x, y) by rw [← hxl]; exact pat_snoc_eq _ _]; exact HNu.out
      case measure => simp [intOf]; omega
    · obtain rfl : n = k := by omega
      go_wp2
      go_ret
      exact ⟨_, xs, rfl, hxl, HX.out, HR.out, hb⟩
end Go.Proofs.Ytbgllbjkmjlipaa
