/- The walk of NavFollows. -/
import Derived.Test.YtbgllbjkmjlipaaW16
namespace Go.Proofs.Ytbgllbjkmjlipaa
open Go.RowKit Go.Shelf
attribute [local go_sem] fmt64
attribute [local go_sem ↓] st79
attribute [local go_sem] st79_run run_store_complex rr79 World.setRow_alloc_new

theorem RR.lt3 {g k : Nat} {t : TypeId} {W : World} (h : RR g k t W) : g < W.heap.size := by
  obtain ⟨cs, _, h⟩ := h
  exact (Array.getElem?_eq_some_iff.1 h).1
section
variable {w w1 Wc w_ : World} {g8 n c8 : Nat} {V : List Value}
theorem own_blt {B size : Nat} {e : TypeId} (h : w_.ownsRow B e size (.slice (some ⟨g8, 0, none⟩) n c8) n V) : g8 < w_.heap.size := by
  rcases h.2 with ⟨h', _⟩ | ⟨g', cap', cur, h', _, hg, _⟩
  · simp at h'
  · simp only [Value.slice.injEq, Option.some.injEq, Addr.mk.injEq, and_true, true_and] at h'
    obtain ⟨rfl, rfl⟩ := h'
    exact (Array.getElem?_eq_some_iff.1 hg).1
theorem own_shape2 {W : World} {B size n : Nat} {e : TypeId} {v : Value} {l : List Value} (hn : 1 ≤ n) (h : W.ownsRow B e size v n l) : ∃ g c, v = .slice (some ⟨g, 0, none⟩) n c ∧ B ≤ g ∧ W.ownsRow B e size (.slice (some ⟨g, 0, none⟩) n c) n l := by
  obtain ⟨g, c, rfl, hg, _, _⟩ := own_cells h hn
  exact ⟨g, c, rfl, hg, h⟩
theorem fin_alloc (hws : w.heap.size ≤ w1.heap.size) (hge : w1.heap.size ≤ Wc.heap.size) (hg8 : Wc.heap.size ≤ g8) (hown : w_.ownsRow Wc.heap.size 31 1 (.slice (some ⟨g8, 0, none⟩) n c8) n V) (o : Obj) :
    (w_.alloc o).ownsRow w.heap.size 31 1 (.slice (some ⟨g8, 0, none⟩) n c8) n V ∧ w_.heap.size ≠ g8 ∧ w1.heap.size ≤ g8 ∧ w1.heap.size ≤ w_.heap.size :=
  have := own_blt hown
  ⟨own_base (hown.alloc _) (by omega), by omega, by omega, by omega⟩
theorem fin_set (hws : w.heap.size ≤ w1.heap.size) (hge : w1.heap.size ≤ Wc.heap.size) (hg8 : Wc.heap.size ≤ g8) (hown : w_.ownsRow Wc.heap.size 31 1 (.slice (some ⟨g8, 0, none⟩) n c8) n V) (g : Nat) (hg : g < Wc.heap.size) (hg1 : w1.heap.size ≤ g) (cs : Array Value) :
    (w_.setRow g cs).ownsRow w.heap.size 31 1 (.slice (some ⟨g8, 0, none⟩) n c8) n V ∧ g ≠ g8 ∧ w1.heap.size ≤ g8 ∧ w1.heap.size ≤ g :=
  ⟨own_base (own_setRow hown (by simp [Value.ownBlock]; omega) _) (by omega), by omega, by omega, hg1⟩
theorem own_ne {W : World} {B size : Nat} {e : TypeId} {v : Value} {l : List Value} {g : Nat} (h : W.ownsRow B e size v n l) (hg : W.heap.size ≤ g) : v.ownBlock ≠ some g := by
  rcases h.2 with ⟨rfl, _⟩ | ⟨g', cap', cur, rfl, _, hh, _⟩
  · simp [Value.ownBlock]
  · have := (Array.getElem?_eq_some_iff.1 hh).1
    simp [Value.ownBlock]; omega
end

theorem self_eq0 (n : Int) (hn : n.natAbs < 1048576) : Ieee.double.order (wd false n) (wd false n) = some .eq := by
  have := order_wd false false n n (by omega) (by omega)
  rwa [Int.compare_eq_eq.2 rfl] at this
/-- While what was told is overwritten: the rest stays. -/
def J2 (w : World) (n g8 c8 gm cm g9 c10 c9 : Nat) (A9 : Option Addr) (f : Nat → Int × Int) (zc : List Value) (L : List MRow) (W : World) : Prop :=
  (∃ l, W.ownsRow w.heap.size 31 1 (.slice (some ⟨g8, 0, none⟩) n c8) n l) ∧ W.ownsRow w.heap.size 31 1 (.slice A9 n c9) n ((listOf f n).map gval) ∧
  W.ownsRow w.heap.size 39 2 (.slice (some ⟨gm, 0, none⟩) n cm) n zc ∧ W.ownsRow w.heap.size 31 1 (.slice (some ⟨g9, 0, none⟩) n c10) n ((listOf f n).map gval) ∧ LW w 0 L W
theorem J2_set {w : World} {n g8 c8 gm cm g9 c10 c9 : Nat} {A9 : Option Addr} {f : Nat → Int × Int} {zc : List Value} {L : List MRow} {W : World} (h1 : (Value.slice A9 n c9).ownBlock ≠ some g8) (h2 : g8 < gm) (h3 : g8 ≠ g9) (h4 : ∀ x ∈ L, x.1 ≠ g8) (h5 : w.heap.size ≤ g8)
    (h : J2 w n g8 c8 gm cm g9 c10 c9 A9 f zc L W) (j : Nat) (u : Value) : J2 w n g8 c8 gm cm g9 c10 c9 A9 f zc L (W.setCell ⟨g8, j, none⟩ u) := by
  obtain ⟨⟨l, a⟩, b, c, d, e⟩ := h
  exact ⟨⟨_, (a.stored j u).1⟩, ownsRow_setCell_other (a := ⟨g8, j, none⟩) b h1 u, ownsRow_setCell_other (a := ⟨g8, j, none⟩) c (by simp [Value.ownBlock]; omega) u, ownsRow_setCell_other (a := ⟨g8, j, none⟩) d (by simp [Value.ownBlock]; omega) u, e.setFar h4 h5 u⟩
theorem own_has {W : World} {B g n c : Nat} {l : List Value} (h : W.ownsRow B 31 1 (.slice (some ⟨g, 0, none⟩) n c) n l) {j : Nat} (hj : j < n) : ∃ u, W.cell? ⟨g, j, none⟩ = some u := by
  have hl := h.1
  exact ⟨l[j]'(by omega), by rw [h.cellAt j (by omega)]; exact List.getElem?_eq_getElem (by omega)⟩

set_option maxRecDepth 100000 in
set_option maxHeartbeats 8000000 in
theorem navFollows_walk (A : Option Addr) (n cap : Nat) (ns : List N3) (nx near re im kd : Int) (w : World) (hN : Nbs w w.heap.size A n ns) :
    Calls Try.prog 8 #[.agg #[.slice A n cap, .int .i64 nx, .int .i64 near], nb re im kd] w fun e w' => e = .returned (.bool true) ∧ Below w.heap.size w w' := by
  have hv := value_any re im kd
  have hrn := rightN_any re im kd
  have hpl := plainN_any re im kd
  generalize plR re im kd = a at *
  generalize plI re im kd = b at *
  have LL0 : Hid (LW w 0 [(w.heap.size + 1, 24, #[.int .i64 re, .int .i64 im, .int .i64 kd]), (w.heap.size, 77, #[.slice A n cap, .int .i64 nx, .int .i64 near])] ((w.alloc (.cells #[.slice A n cap, .int .i64 nx, .int .i64 near] 77)).alloc (.cells #[.int .i64 re, .int .i64 im, .int .i64 kd] 24))) := by
    have h := ((LW.nil w).new 77 #[.slice A n cap, .int .i64 nx, .int .i64 near]).new 24 #[.int .i64 re, .int .i64 im, .int .i64 kd]
    simp only [World.size_alloc] at h
    exact h
  by_cases h100 : 100 < n
  · have d0 : decide ((n : Int) > 100) = true := by simp; omega
    have d1 : decide ((100 : Int) < (n : Int)) = true := by simp; omega
    clear hN
    have f0 := LL0.out.cell (i := 0) (v := .slice A n cap) (List.mem_cons_of_mem _ (List.mem_cons_self ..)) rfl
    go_enter Try.func8, Try.ntmps8
    go_wp2_with fail
    refine (awake_any _).mono ?_
    rintro e wz ⟨rfl, hb⟩
    have Lwz := Lib.hid (LL0.out.bel hb)
    clear hb LL0 f0
    go_wp2
    go_ret
    exact ⟨rfl, Lwz.out.below⟩
  have hn : n ≤ 100 := by omega
  have d0 : decide ((n : Int) > 100) = false := by simp; omega
  have d1 : decide ((100 : Int) < (n : Int)) = false := by simp; omega
  clear h100
  have hpt := points_any A n cap ns hn _ ((hN.below LL0.out.below).more LL0.out.below.size)
  have HN := Lib.hid hN
  clear hN
  have f0 := LL0.out.cell (i := 0) (v := .slice A n cap) (List.mem_cons_of_mem _ (List.mem_cons_self ..)) rfl
  go_enter Try.func8, Try.ntmps8
  go_wp2_with fail
  refine hpt.mono ?_
  rintro e w1 ⟨v9, xs, rfl, hxl, hNA, hRow, hb⟩
  have L1 := Lib.hid (LL0.out.bel hb)
  obtain ⟨A9, c9, rfl⟩ := own_slice hRow
  have HNA := Lib.hid hNA
  have HR9 := Lib.hid hRow
  clear LL0 hb hpt hNA hRow f0 d0 d1
  have hpl5 := fun W (hW : Below w.heap.size w W) => plains_any A n cap ns hn W ((HN.out.below hW).more hW.size)
  by_cases hok : 0 ≤ nx ∧ nx < (n : Int) ∧ (rAll ns n && rightB a b && decide (0 ≤ near)) = true
  · obtain ⟨h0, h1, h2⟩ := hok
    obtain ⟨k0, rfl⟩ : ∃ k : Nat, nx = k := ⟨nx.toNat, by omega⟩
    rw [Bool.and_eq_true, Bool.and_eq_true, decide_eq_true_eq] at h2
    obtain ⟨⟨hra, hrz⟩, hnear⟩ := h2
    have hk0 : k0 < n := by omega
    have HR10 : Hid (w1.ownsRow w.heap.size 31 1 (.slice A9 n c9) n ((listOf (fzs ns) n).map gval)) := Lib.hid (by rw [← num_list hxl HNA.out hra]; exact own_base HR9.out (by simp <;> omega))
    clear HR9 HNA
    have hKn := folK_lt (f := fzs ns) (near := near) (a := a) (b := b) hk0
    have hKK := folK_stays (fzs ns) near a b n k0
    have hfo : ∀ W, Below w1.drew.heap.size w1.drew W → ∀ x y, Num x y a b → Calls Try.prog 38 #[.agg #[.slice A9 n c9, .int .i64 k0, .int .i64 near], cx x y] W fun e w' => ∃ g8 c8, e = .returned (.tuple #[cx (wd false (fzs ns (folK (fzs ns) near a b n k0)).1) (wd false (fzs ns (folK (fzs ns) near a b n k0)).2), .agg #[.slice (some ⟨g8, 0, none⟩) n c8, .int .i64 (folK (fzs ns) near a b n k0), .int .i64 near], .int .i64 0]) ∧ W.heap.size ≤ g8 ∧ w'.ownsRow W.heap.size 31 1 (.slice (some ⟨g8, 0, none⟩) n c8) n ((listOf (fzs ns) n).map gval) ∧ Below W.heap.size W w' := fun W hW x y hz => by
      obtain ⟨rfl, rfl⟩ := num_right hz hrz
      exact follow_again (f := fzs ns) hn (fun k hk => rAll_at hra hk) (ownsRow_bel (W := w1.drew) HR10.out hW) hrz k0 hk0 hnear
    have hrf := fun (W : World) (v : Value) (hv : W.ownsRow w.heap.size 39 2 v n (zcells (plzs ns n))) => rfollow_gen (near := near) hn hv hra hrz k0 hk0
    have hag := fun (W : World) (A : Option Addr) (c : Nat) (hv : W.ownsRow w.heap.size 31 1 (.slice A n c) n ((listOf (fzs ns) n).map gval)) => follow_again (f := fzs ns) hn (fun k hk => rAll_at hra hk) hv hrz _ hKn hnear
    rw [hKK] at hag
    clear hKK
    generalize folK (fzs ns) near a b n k0 = K at *
    have HRA := Lib.hid hra
    have HRZ := Lib.hid hrz
    clear hra hrz
    have hws := L1.out.below.size
    have hw1r : w.heap.size + 1 < w1.heap.size := (Array.getElem?_eq_some_iff.1 (L1.out.row (List.mem_cons_self ..))).1
    go_wp2
    have LD := Lib.hid L1.out.drew
    clear L1
    refine Code.wp_mono (Q := fun e_ a_ W' => e_ = .normal ∧ ∃ g x y g8 c8, a_ = ({ tmps := #[.agg #[.slice A n cap, .int .i64 k0, .int .i64 near], nb re im kd, .pointer (some ⟨w.heap.size, 0, none⟩), .pointer (some ⟨w.heap.size + 1, 0, none⟩), .bool false, .slice A9 n c9, cx (wd false (fzs ns K).1) (wd false (fzs ns K).2), .pointer (some ⟨g, 0, none⟩), .int .i64 0, undef, undef, undef, undef, undef, undef, undef, undef, undef, undef, .pointer (some ⟨w.heap.size, 0, none⟩), .slice A n cap, .int .i64 n, .bool false, undef, .pointer (some ⟨w.heap.size, 0, none⟩), .slice A n cap, .slice A9 n c9, .tuple #[cx (wd false (fzs ns K).1) (wd false (fzs ns K).2), .agg #[.slice (some ⟨g8, 0, none⟩) n c8, .int .i64 K, .int .i64 near], .int .i64 0], .slice A9 n c9, .pointer (some ⟨w.heap.size, 1, none⟩), .int .i64 k0, .pointer (some ⟨w.heap.size, 2, none⟩), .int .i64 near, .agg #[.slice A9 n c9, .int .i64 k0, .int .i64 near], .agg #[.int .i64 re, .int .i64 im, .int .i64 kd], cx x y, .tuple #[cx (wd false (fzs ns K).1) (wd false (fzs ns K).2), .agg #[.slice (some ⟨g8, 0, none⟩) n c8, .int .i64 K, .int .i64 near], .int .i64 0], cx (wd false (fzs ns K).1) (wd false (fzs ns K).2), .agg #[.slice (some ⟨g8, 0, none⟩) n c8, .int .i64 K, .int .i64 near], .int .i64 0, undef, undef, undef, undef, undef, undef, undef, undef, undef, undef, undef, undef, undef, undef, undef, undef, undef, undef, undef, undef, undef, undef, undef, undef, undef, undef, undef, undef, undef, undef, undef, undef, undef, undef, undef, undef, undef, undef, undef, undef, undef, undef, undef, undef, undef, undef, undef, undef, undef, undef, undef, undef, undef, undef, undef, undef, undef, undef, undef, undef, undef, undef, undef, undef, undef, undef, undef, undef, undef, undef, undef, undef, undef, undef, undef, undef, undef, undef, undef, undef, undef, undef, undef, undef, undef, undef, undef, undef, undef, undef, undef, undef, undef, undef, undef, undef, undef, undef, undef, undef, undef, undef, undef, undef, undef, undef, undef, undef, undef, undef, undef, undef, undef, undef, undef, undef, undef, undef, undef, undef, undef, undef, undef, undef, undef, undef, undef, undef, undef, undef, undef, undef, undef, undef, undef, undef, undef, undef, undef, undef, undef, undef, undef, undef, undef, undef, undef, undef, undef, undef, undef, undef, undef, undef, undef, undef, undef, undef, undef, undef, undef, undef, undef, undef, undef, undef, undef, undef, undef, undef, undef, undef, undef, undef, undef, undef, undef], defers := [] } : Act) ∧ LW w 0 [(g, 79, #[.slice (some ⟨g8, 0, none⟩) n c8, .int .i64 K, .int .i64 near]), (w.heap.size + 1, 24, #[.int .i64 re, .int .i64 im, .int .i64 kd]), (w.heap.size, 77, #[.slice A n cap, .int .i64 k0, .int .i64 near])] W' ∧ Below w1.drew.heap.size w1.drew W' ∧ W'.ownsRow w.heap.size 31 1 (.slice (some ⟨g8, 0, none⟩) n c8) n ((listOf (fzs ns) n).map gval) ∧ g ≠ g8 ∧ w1.heap.size ≤ g8 ∧ w1.heap.size ≤ g) ?impo4 ?rego4
    case rego4 =>
      clear hrn hpl hpl5 hrf hag
      have hge0 : w1.drew.heap.size ≤ w1.heap.size := Nat.le_refl _
      have sv : Hid (∀ W, Below w1.drew.heap.size w1.drew W → Below w1.drew.heap.size w1.drew W ∧ W.cell? ⟨w.heap.size + 1, 0, none⟩ = some (.int .i64 re) ∧ W.cell? ⟨w.heap.size + 1, 1, none⟩ = some (.int .i64 im) ∧ W.cell? ⟨w.heap.size + 1, 2, none⟩ = some (.int .i64 kd) ∧ W.cell? ⟨w.heap.size, 0, none⟩ = some (.slice A n cap) ∧ W.cell? ⟨w.heap.size, 1, none⟩ = some (.int .i64 k0) ∧ W.cell? ⟨w.heap.size, 2, none⟩ = some (.int .i64 near)) := Lib.hid fun W hb => by
        have LL := LD.out.bel hb
        exact ⟨hb, LL.cell (i := 0) (v := .int .i64 re) (List.mem_cons_self ..) rfl, LL.cell (i := 1) (v := .int .i64 im) (List.mem_cons_self ..) rfl, LL.cell (i := 2) (v := .int .i64 kd) (List.mem_cons_self ..) rfl, LL.cell (i := 0) (v := .slice A n cap) (List.mem_cons_of_mem _ (List.mem_cons_self ..)) rfl, LL.cell (i := 1) (v := .int .i64 k0) (List.mem_cons_of_mem _ (List.mem_cons_self ..)) rfl, LL.cell (i := 2) (v := .int .i64 near) (List.mem_cons_of_mem _ (List.mem_cons_self ..)) rfl⟩
      have BK0 := Below.refl w1.drew.heap.size w1.drew
      go_region_held3 (fun W => Below w1.drew.heap.size w1.drew W ∧ W.cell? ⟨w.heap.size + 1, 0, none⟩ = some (.int .i64 re) ∧ W.cell? ⟨w.heap.size + 1, 1, none⟩ = some (.int .i64 im) ∧ W.cell? ⟨w.heap.size + 1, 2, none⟩ = some (.int .i64 kd) ∧ W.cell? ⟨w.heap.size, 0, none⟩ = some (.slice A n cap) ∧ W.cell? ⟨w.heap.size, 1, none⟩ = some (.int .i64 k0) ∧ W.cell? ⟨w.heap.size, 2, none⟩ = some (.int .i64 near))
        (first | (with_reducible exact sv.out _ BK0) | (with_reducible assumption) | (with_reducible exact sv.out _ (bt (And.left (by assumption)) hbw)) | (with_reducible exact sv.out _ (bt_alloc (And.left (by assumption)) _)) | (with_reducible exact sv.out _ (bt_allocd (And.left (by assumption)) _)) | (with_reducible exact sv.out _ (bt_re (And.left (by assumption)) (by assumption))) | (with_reducible exact sv.out _ (bt_set (And.left (by assumption)) (by assumption) _)))
        (first | (go_at_call 14; refine (hv _).mono ?_; rintro e w_ ⟨x, y, rfl, hNz, hbw⟩; have hge := bt_ge (And.left (by assumption)) hbw; (first | have hRR := RR.bel (k := 3) (t := 79) (by assumption) hbw | have hRR := RR.bel (rr79 _ _ _ _) hbw | have hRR := RR.bel (rr79d _ _ _ _) hbw | skip)) | (go_at_call 38; refine (hfo _ (And.left (by assumption)) _ _ (by assumption)).mono ?_; rintro e w_ ⟨g8, c8, rfl, hg8, hown, hbw⟩; have hge := bt_ge (And.left (by assumption)) hbw; (first | have hRR := RR.bel (k := 3) (t := 79) (by assumption) hbw | have hRR := RR.bel (rr79 _ _ _ _) hbw | have hRR := RR.bel (rr79d _ _ _ _) hbw | skip)))
      all_goals
        rename_i hK
        first | exact ⟨rfl, _, _, _, _, _, rfl, LW.add (LD.out.bel hK.1) (heap_alloc_new _ _), hK.1, fin_alloc hws (by assumption) hg8 hown _⟩ | exact ⟨rfl, _, _, _, _, _, rfl, LW.add (LD.out.bel hK.1) (RR.setRow_row (k := 3) (t := 79) (by assumption) _), hK.1, fin_set hws (by first | assumption | (rw [World.size_alloc]; exact Nat.le_succ_of_le (by assumption))) hg8 hown _ (by first | exact RR.lt3 (by assumption) | (rw [World.size_alloc]; exact Nat.lt_succ_self _)) (by first | exact Nat.le_refl _ | assumption) _⟩

    rintro e_ a_ W2 ⟨rfl, g, x, y, g8, c8, rfl, l2, hb12, ho8, hgg, hg8, hgw⟩
    have L2 := Lib.hid l2
    have HO8 := Lib.hid ho8
    have HR2 := Lib.hid (ownsRow_bel (W := w1.drew) HR10.out hb12)
    have hA8 := own_ne HR10.out hg8
    have hw8 : w.heap.size + 1 < g8 := Nat.lt_of_lt_of_le hw1r hg8
    clear l2 ho8 LD hfo hb12 HR10 hg8 hgw hw1r
    have hp5 := hpl5 _ L2.out.below
    rw [HRA.out] at hp5
    clear hpl5
    have f0 := L2.out.cell (i := 0) (v := .slice A n cap) (List.mem_cons_of_mem _ (List.mem_cons_of_mem _ (List.mem_cons_self ..))) rfl
    go_wp2_with fail
    refine (hp5).mono ?_
    rintro e w3 ⟨v, rfl, hown, hb⟩
    have Lw3 := Lib.hid (L2.out.bel hb)
    obtain ⟨gm, cm, rfl, hgm, hom⟩ := own_shape2 (by omega) hown
    have HOM := Lib.hid (own_base hom L2.out.below.size)
    have HR3 := Lib.hid (ownsRow_bel HR2.out hb)
    have HO8b := Lib.hid (ownsRow_bel HO8.out hb)
    have h8m : g8 < gm := Nat.lt_of_lt_of_le (own_blt HO8.out) hgm
    clear hom hown HO8 hp5 hgm HR2
    clear hb L2 f0
    have t0 : decide ((k0 : Int) < 0) = false := by simp
    have t1 : decide ((k0 : Int) ≥ (n : Int)) = false := by simp; omega
    have t2 : decide (near < 0) = false := by simp; omega
    rw [HRZ.out] at hrn
    have f1 := Lw3.out.cell (i := 1) (v := .int .i64 k0) (List.mem_cons_of_mem _ (List.mem_cons_of_mem _ (List.mem_cons_self ..))) rfl
    have f2 := Lw3.out.cell (i := 2) (v := .int .i64 near) (List.mem_cons_of_mem _ (List.mem_cons_of_mem _ (List.mem_cons_self ..))) rfl
    have f3 := Lw3.out.cell (i := 0) (v := .int .i64 re) (List.mem_cons_of_mem _ (List.mem_cons_self ..)) rfl
    have f4 := Lw3.out.cell (i := 1) (v := .int .i64 im) (List.mem_cons_of_mem _ (List.mem_cons_self ..)) rfl
    have f5 := Lw3.out.cell (i := 2) (v := .int .i64 kd) (List.mem_cons_of_mem _ (List.mem_cons_self ..)) rfl
    go_wp2_with fail
    refine (hrn _).mono ?_
    rintro e w4 ⟨rfl, hb⟩
    have Lw4 := Lib.hid (Lw3.out.bel hb)
    have HR4 := Lib.hid (ownsRow_bel HR3.out hb)
    have HO8 := Lib.hid (ownsRow_bel HO8b.out hb)
    have HOM4 := Lib.hid (ownsRow_bel HOM.out hb)
    clear HO8b HOM hrn t0 t1 HR3
    clear hb Lw3 f1 f2 f3 f4 f5
    have f6 := Lw4.out.cell (i := 1) (v := .int .i64 k0) (List.mem_cons_of_mem _ (List.mem_cons_of_mem _ (List.mem_cons_self ..))) rfl
    have f7 := Lw4.out.cell (i := 2) (v := .int .i64 near) (List.mem_cons_of_mem _ (List.mem_cons_of_mem _ (List.mem_cons_self ..))) rfl
    have f8 := Lw4.out.cell (i := 0) (v := .int .i64 re) (List.mem_cons_of_mem _ (List.mem_cons_self ..)) rfl
    have f9 := Lw4.out.cell (i := 1) (v := .int .i64 im) (List.mem_cons_of_mem _ (List.mem_cons_self ..)) rfl
    have f10 := Lw4.out.cell (i := 2) (v := .int .i64 kd) (List.mem_cons_of_mem _ (List.mem_cons_self ..)) rfl
    have hrf2 : ∀ W, Below w4.drew.heap.size w4.drew W → Calls Try.prog 39 #[.slice (some ⟨gm, 0, none⟩) n cm, .int .i64 k0, .int .i64 near, zz a b] W fun e w' => e = .returned (.int .i64 K) ∧ Below W.heap.size W w' := fun W hW => hrf W _ (ownsRow_bel (W := w4.drew) HOM4.out hW)
    clear hrf
    go_wp2
    clear f6 f7 f8 f9 f10 t2
    have LD4 := Lib.hid Lw4.out.drew
    have sv : Hid (∀ W, Below w4.drew.heap.size w4.drew W → Below w4.drew.heap.size w4.drew W ∧ W.cell? ⟨w.heap.size + 1, 0, none⟩ = some (.int .i64 re) ∧ W.cell? ⟨w.heap.size + 1, 1, none⟩ = some (.int .i64 im) ∧ W.cell? ⟨w.heap.size + 1, 2, none⟩ = some (.int .i64 kd) ∧ W.cell? ⟨w.heap.size, 1, none⟩ = some (.int .i64 k0) ∧ W.cell? ⟨w.heap.size, 2, none⟩ = some (.int .i64 near)) := Lib.hid fun W hb => by
      have LL := LD4.out.bel hb
      exact ⟨hb, LL.cell (i := 0) (v := .int .i64 re) (List.mem_cons_of_mem _ (List.mem_cons_self ..)) rfl, LL.cell (i := 1) (v := .int .i64 im) (List.mem_cons_of_mem _ (List.mem_cons_self ..)) rfl, LL.cell (i := 2) (v := .int .i64 kd) (List.mem_cons_of_mem _ (List.mem_cons_self ..)) rfl, LL.cell (i := 1) (v := .int .i64 k0) (List.mem_cons_of_mem _ (List.mem_cons_of_mem _ (List.mem_cons_self ..))) rfl, LL.cell (i := 2) (v := .int .i64 near) (List.mem_cons_of_mem _ (List.mem_cons_of_mem _ (List.mem_cons_self ..))) rfl⟩
    have BK0 := Below.refl w4.drew.heap.size w4.drew
    go_region_held3 (fun W => Below w4.drew.heap.size w4.drew W ∧ W.cell? ⟨w.heap.size + 1, 0, none⟩ = some (.int .i64 re) ∧ W.cell? ⟨w.heap.size + 1, 1, none⟩ = some (.int .i64 im) ∧ W.cell? ⟨w.heap.size + 1, 2, none⟩ = some (.int .i64 kd) ∧ W.cell? ⟨w.heap.size, 1, none⟩ = some (.int .i64 k0) ∧ W.cell? ⟨w.heap.size, 2, none⟩ = some (.int .i64 near))
      (first | (with_reducible exact sv.out _ BK0) | (with_reducible assumption) | (with_reducible exact sv.out _ (bt (And.left (by assumption)) hbw)))
      (first | (go_at_call 18; refine (hpl _).mono ?_; rintro e w_ ⟨rfl, hbw⟩) | (go_at_call 39; refine (hrf2 _ (And.left (by assumption))).mono ?_; rintro e w_ ⟨rfl, hbw⟩))
    rename_i hK
    have L5 := Lib.hid (LD4.out.bel hK.1)
    have HO85 := Lib.hid (ownsRow_bel (W := w4.drew) HO8.out hK.1)
    have HOM5 := Lib.hid (ownsRow_bel (W := w4.drew) HOM4.out hK.1)
    have HR5 := Lib.hid (ownsRow_bel (W := w4.drew) HR4.out hK.1)
    clear hK sv BK0 hrf2 hpl LD4 Lw4 HO8 HOM4 HR4
    have i1 : (0 : Int) ≤ (K : Int) := by omega
    have i2 : (K : Int) < (n : Int) := by omega
    obtain ⟨z0, z1⟩ := own_zpt HOM5.out hKn
    have bK := right_bd (rAll_at HRA.out hKn)
    have his := is_any (fzs ns K).1 (fzs ns K).2 (by have := bK.1; show (plz (nat_ ns K)).1.natAbs < _; omega) (by have := bK.2; show (plz (nat_ ns K)).2.natAbs < _; omega)
    clear bK
    have f11 := L5.out.cell (i := 0) (v := .slice (some ⟨g8, 0, none⟩) n c8) (List.mem_cons_self ..) rfl
    have f12 := L5.out.cell (i := 1) (v := .int .i64 K) (List.mem_cons_self ..) rfl
    have f13 := L5.out.cell (i := 2) (v := .int .i64 near) (List.mem_cons_self ..) rfl
    have f14 := L5.out.cell (i := 2) (v := .int .i64 near) (List.mem_cons_of_mem _ (List.mem_cons_of_mem _ (List.mem_cons_self ..))) rfl
    go_wp2_with fail
    refine (his _).mono ?_
    rintro e w6 ⟨rfl, hb⟩
    have Lw6 := Lib.hid (L5.out.bel hb)
    have HO8 := Lib.hid (ownsRow_bel HO85.out hb)
    have HOM := Lib.hid (ownsRow_bel HOM5.out hb)
    have HR6 := Lib.hid (ownsRow_bel HR5.out hb)
    clear HO85 HOM5 his z0 z1 HR5
    clear hb L5 f11 f12 f13 f14
    have f15 := Lw6.out.cell (i := 0) (v := .slice (some ⟨g8, 0, none⟩) n c8) (List.mem_cons_self ..) rfl
    have f16 := Lw6.out.cell (i := 1) (v := .int .i64 K) (List.mem_cons_self ..) rfl
    have f17 := Lw6.out.cell (i := 2) (v := .int .i64 near) (List.mem_cons_self ..) rfl
    have f18 := Lw6.out.cell (i := 2) (v := .int .i64 near) (List.mem_cons_of_mem _ (List.mem_cons_of_mem _ (List.mem_cons_self ..))) rfl
    go_wp2
    clear f15 f16 f17 f18 i1 i2
    have HPT : Hid (∀ W, Below w6.heap.size w6 W → ∀ j, j < n → LW w 0 [(g, 79, #[.slice (some ⟨g8, 0, none⟩) n c8, .int .i64 K, .int .i64 near]), (w.heap.size + 1, 24, #[.int .i64 re, .int .i64 im, .int .i64 kd]), (w.heap.size, 77, #[.slice A n cap, .int .i64 k0, .int .i64 near])] W ∧ W.cell? ⟨g8, j, none⟩ = some (cx (wd false (fzs ns j).1) (wd false (fzs ns j).2)) ∧ W.cell? ⟨gm, j * 2, none⟩ = some (.int .i64 (fzs ns j).1) ∧ W.cell? ⟨gm, j * 2 + 1, none⟩ = some (.int .i64 (fzs ns j).2)) := Lib.hid fun W hW j hj => ⟨Lw6.out.bel hW, own_pt (ownsRow_bel HO8.out hW) (fun k hk => right_bd (rAll_at HRA.out hk)) hj, own_zpt (ownsRow_bel HOM.out hW) hj⟩
    have HIS : Hid (∀ j, j < n → ∀ w, Calls Try.prog 28 #[cx (wd false (fzs ns j).1) (wd false (fzs ns j).2), zz (fzs ns j).1 (fzs ns j).2] w fun e w' => e = .returned (.bool true) ∧ Below w.heap.size w w') := Lib.hid fun j hj => is_any _ _ (by have := (right_bd (rAll_at HRA.out hj)).1; show (plz (nat_ ns j)).1.natAbs < _; omega) (by have := (right_bd (rAll_at HRA.out hj)).2; show (plz (nat_ ns j)).2.natAbs < _; omega)
    go_loopw [13] (fun i wr => ∃ (j : Nat), j ≤ n ∧ i = .int .i64 j ∧ Hid (Below w6.heap.size w6 wr)) (fun i _ => n - (intOf i).toNat)
    case atStart => exact ⟨0, Nat.zero_le _, rfl, Lib.hid (Below.refl _ _)⟩
    case round =>
      obtain ⟨j, hj, rfl, HB⟩ := hrel
      have LR := Lib.hid (Lw6.out.bel HB.out)
      skip
      by_cases hlt : j < n
      · have i1 : (0 : Int) ≤ (j : Int) := by omega
        have i2 : (j : Int) < (n : Int) := by omega
        have his := HIS.out j hlt
        have sv : Hid (∀ W, Below wr.heap.size wr W → Below wr.heap.size wr W ∧ W.cell? ⟨g, 0, none⟩ = some (.slice (some ⟨g8, 0, none⟩) n c8) ∧ W.cell? ⟨g8, j, none⟩ = some (cx (wd false (fzs ns j).1) (wd false (fzs ns j).2)) ∧ W.cell? ⟨gm, j * 2, none⟩ = some (.int .i64 (fzs ns j).1) ∧ W.cell? ⟨gm, j * 2 + 1, none⟩ = some (.int .i64 (fzs ns j).2)) := Lib.hid fun W hb => by
          obtain ⟨l, c1, c2, c3⟩ := HPT.out W (bt HB.out hb) j hlt
          exact ⟨hb, l.cell (i := 0) (b := g) (v := .slice (some ⟨g8, 0, none⟩) n c8) (List.mem_cons_self ..) rfl, c1, c2, c3⟩
        have BK0 := (Below.refl wr.heap.size wr).drew
        have fg0 := LR.out.cell (i := 0) (b := g) (v := .slice (some ⟨g8, 0, none⟩) n c8) (List.mem_cons_self ..) rfl
        generalize (fzs ns j).1 = X at *
        generalize (fzs ns j).2 = Y at *
        go_wp2_with fail
        clear fg0
        go_region_held3 (fun W => Below wr.heap.size wr W ∧ W.cell? ⟨g, 0, none⟩ = some (.slice (some ⟨g8, 0, none⟩) n c8) ∧ W.cell? ⟨g8, j, none⟩ = some (cx (wd false X) (wd false Y)) ∧ W.cell? ⟨gm, j * 2, none⟩ = some (.int .i64 X) ∧ W.cell? ⟨gm, j * 2 + 1, none⟩ = some (.int .i64 Y))
          (first | (with_reducible exact sv.out _ BK0) | (with_reducible assumption) | (with_reducible exact sv.out _ (bt (And.left (by assumption)) hbw)))
          (first | (go_at_call 28; refine (his _).mono ?_; rintro e w_ ⟨rfl, hbw⟩))
        rename_i hK
        have HB2 := Lib.hid (bt HB.out hK.1)
        clear hK sv BK0 his
        go_wp2
        go_roundw
        case rel => exact ⟨j + 1, by omega, by go_num, HB2⟩
        case measure => simp [intOf]; omega
      · obtain rfl : n = j := by omega
        clear hlt hj
        have HO8b := Lib.hid (ownsRow_bel HO8.out HB.out)
        have HOMb := Lib.hid (ownsRow_bel HOM.out HB.out)
        have HR7 := Lib.hid (ownsRow_bel HR6.out HB.out)
        clear HO8 HOM HPT HR6 HB Lw6
        have f0 := LR.out.cell (i := 0) (v := .slice (some ⟨g8, 0, none⟩) n c8) (List.mem_cons_self ..) rfl
        have f1 := LR.out.cell (i := 1) (v := .int .i64 K) (List.mem_cons_self ..) rfl
        have f2 := LR.out.cell (i := 2) (v := .int .i64 near) (List.mem_cons_self ..) rfl
        have f3 := LR.out.cell (i := 0) (v := .int .i64 re) (List.mem_cons_of_mem _ (List.mem_cons_self ..)) rfl
        have f4 := LR.out.cell (i := 1) (v := .int .i64 im) (List.mem_cons_of_mem _ (List.mem_cons_self ..)) rfl
        have f5 := LR.out.cell (i := 2) (v := .int .i64 kd) (List.mem_cons_of_mem _ (List.mem_cons_self ..)) rfl
        go_wp2
        clear f0 f1 f2 f3 f4 f5
        have hws := LR.out.below.size
        have LD := Lib.hid LR.out.drew
        clear LR
        have hag2 : ∀ W, Below wr.drew.heap.size wr.drew W → ∀ x y, Num x y a b → Calls Try.prog 38 #[.agg #[.slice (some ⟨g8, 0, none⟩) n c8, .int .i64 K, .int .i64 near], cx x y] W fun e w' => ∃ g9 c10, e = .returned (.tuple #[cx (wd false (fzs ns K).1) (wd false (fzs ns K).2), .agg #[.slice (some ⟨g9, 0, none⟩) n c10, .int .i64 K, .int .i64 near], .int .i64 0]) ∧ W.heap.size ≤ g9 ∧ w'.ownsRow W.heap.size 31 1 (.slice (some ⟨g9, 0, none⟩) n c10) n ((listOf (fzs ns) n).map gval) ∧ Below W.heap.size W w' := fun W hW x y hz => by
          obtain ⟨rfl, rfl⟩ := num_right hz HRZ.out
          exact hag W _ _ (ownsRow_bel (W := wr.drew) HO8b.out hW)
        clear hag
        refine Code.wp_mono (Q := fun e_ a_ W' => e_ = .normal ∧ ∃ h x2 y2 g9 c10, a_ = ({ tmps := #[.agg #[.slice A n cap, .int .i64 k0, .int .i64 near], nb re im kd, .pointer (some ⟨w.heap.size, 0, none⟩), .pointer (some ⟨w.heap.size + 1, 0, none⟩), u4, .slice A9 n c9, cx (wd false (fzs ns K).1) (wd false (fzs ns K).2), .pointer (some ⟨g, 0, none⟩), .int .i64 0, .slice (some ⟨gm, 0, none⟩) n cm, .bool true, .int .i64 0, .int .i64 K, .int .i64 n, cx (wd false (fzs ns K).1) (wd false (fzs ns K).2), .pointer (some ⟨h, 0, none⟩), .int .i64 0, undef, undef, .pointer (some ⟨w.heap.size, 0, none⟩), .slice A n cap, .int .i64 n, .bool false, undef, .pointer (some ⟨w.heap.size, 0, none⟩), .slice A n cap, .slice A9 n c9, .tuple #[cx (wd false (fzs ns K).1) (wd false (fzs ns K).2), .agg #[.slice (some ⟨g8, 0, none⟩) n c8, .int .i64 K, .int .i64 near], .int .i64 0], .slice A9 n c9, .pointer (some ⟨w.heap.size, 1, none⟩), .int .i64 k0, .pointer (some ⟨w.heap.size, 2, none⟩), .int .i64 near, .agg #[.slice A9 n c9, .int .i64 k0, .int .i64 near], .agg #[.int .i64 re, .int .i64 im, .int .i64 kd], cx x y, .tuple #[cx (wd false (fzs ns K).1) (wd false (fzs ns K).2), .agg #[.slice (some ⟨g8, 0, none⟩) n c8, .int .i64 K, .int .i64 near], .int .i64 0], cx (wd false (fzs ns K).1) (wd false (fzs ns K).2), .agg #[.slice (some ⟨g8, 0, none⟩) n c8, .int .i64 K, .int .i64 near], .int .i64 0, .tuple #[.slice (some ⟨gm, 0, none⟩) n cm, .bool true], .pointer (some ⟨w.heap.size, 0, none⟩), .slice A n cap, .tuple #[.slice (some ⟨gm, 0, none⟩) n cm, .bool true], .slice (some ⟨gm, 0, none⟩) n cm, .bool true, .pointer (some ⟨w.heap.size, 1, none⟩), .int .i64 k0, .bool false, .bool false, .pointer (some ⟨w.heap.size, 1, none⟩), .int .i64 k0, .slice (some ⟨gm, 0, none⟩) n cm, .int .i64 n, .bool false, .bool false, .bool true, .bool false, .bool false, .agg #[.int .i64 re, .int .i64 im, .int .i64 kd], .bool true, .bool false, .bool false, .bool false, .pointer (some ⟨w.heap.size, 2, none⟩), .int .i64 near, .bool false, .bool false, .int .i64 0, .bool false, undef, undef, undef, undef, undef, undef, undef, undef, undef, undef, undef, undef, undef, undef, undef, undef, undef, undef, undef, undef, undef, undef, undef, undef, undef, undef, .slice (some ⟨gm, 0, none⟩) n cm, .pointer (some ⟨w.heap.size, 1, none⟩), .int .i64 k0, .pointer (some ⟨w.heap.size, 2, none⟩), .int .i64 near, .agg #[.int .i64 re, .int .i64 im, .int .i64 kd], zz a b, .int .i64 K, .int .i64 0, .bool false, .bool false, .pointer (some ⟨g, 1, none⟩), .int .i64 K, .int .i64 K, .bool false, .bool false, .bool false, .pointer (some ⟨g, 2, none⟩), .int .i64 near, .pointer (some ⟨w.heap.size, 2, none⟩), .int .i64 near, .bool false, .bool false, .bool false, .pointer (some ⟨g, 0, none⟩), .slice (some ⟨g8, 0, none⟩) n c8, .int .i64 n, .slice (some ⟨gm, 0, none⟩) n cm, .int .i64 n, .bool false, .bool false, .bool false, cx (wd false (fzs ns K).1) (wd false (fzs ns K).2), .slice (some ⟨gm, 0, none⟩) n cm, .int .i64 K, .pointer (some ⟨gm, K * 2, none⟩), .agg #[.int .i64 (fzs ns K).1, .int .i64 (fzs ns K).2], .bool true, .bool false, .bool false, .int .i64 n, .slice (some ⟨gm, 0, none⟩) n cm, .int .i64 n, .bool false, u140, u141, u142, u143, u144, u145, u146, u147, u148, u149, u150, u151, u152, .tuple #[cx (wd false (fzs ns K).1) (wd false (fzs ns K).2), .agg #[.slice (some ⟨g9, 0, none⟩) n c10, .int .i64 K, .int .i64 near], .int .i64 0], .agg #[.slice (some ⟨g8, 0, none⟩) n c8, .int .i64 K, .int .i64 near], .agg #[.int .i64 re, .int .i64 im, .int .i64 kd], cx x2 y2, .tuple #[cx (wd false (fzs ns K).1) (wd false (fzs ns K).2), .agg #[.slice (some ⟨g9, 0, none⟩) n c10, .int .i64 K, .int .i64 near], .int .i64 0], cx (wd false (fzs ns K).1) (wd false (fzs ns K).2), .agg #[.slice (some ⟨g9, 0, none⟩) n c10, .int .i64 K, .int .i64 near], .int .i64 0, undef, undef, undef, undef, undef, undef, undef, undef, undef, undef, undef, undef, undef, undef, undef, undef, undef, undef, undef, undef, undef, undef, undef, undef, undef, undef, undef, undef, undef, undef, undef, undef, undef, undef, undef, undef, undef, undef, undef, undef, undef, undef, undef, undef, undef, undef, undef, undef, undef, undef, undef, undef, undef, undef, undef, undef], defers := [] } : Act) ∧ LW w 0 [(h, 79, #[.slice (some ⟨g9, 0, none⟩) n c10, .int .i64 K, .int .i64 near]), (g, 79, #[.slice (some ⟨g8, 0, none⟩) n c8, .int .i64 K, .int .i64 near]), (w.heap.size + 1, 24, #[.int .i64 re, .int .i64 im, .int .i64 kd]), (w.heap.size, 77, #[.slice A n cap, .int .i64 k0, .int .i64 near])] W' ∧ Below wr.drew.heap.size wr.drew W' ∧ W'.ownsRow w.heap.size 31 1 (.slice (some ⟨g9, 0, none⟩) n c10) n ((listOf (fzs ns) n).map gval) ∧ h ≠ g9 ∧ wr.heap.size ≤ g9 ∧ wr.heap.size ≤ h) ?impo21 ?rego21
        case rego21 =>
          have hge0 : wr.drew.heap.size ≤ wr.heap.size := Nat.le_refl _
          have sv : Hid (∀ W, Below wr.drew.heap.size wr.drew W → Below wr.drew.heap.size wr.drew W ∧ W.cell? ⟨w.heap.size + 1, 0, none⟩ = some (.int .i64 re) ∧ W.cell? ⟨w.heap.size + 1, 1, none⟩ = some (.int .i64 im) ∧ W.cell? ⟨w.heap.size + 1, 2, none⟩ = some (.int .i64 kd) ∧ W.cell? ⟨g, 0, none⟩ = some (.slice (some ⟨g8, 0, none⟩) n c8) ∧ W.cell? ⟨g, 1, none⟩ = some (.int .i64 K) ∧ W.cell? ⟨g, 2, none⟩ = some (.int .i64 near)) := Lib.hid fun W hb => by
            have LL := LD.out.bel hb
            exact ⟨hb, LL.cell (i := 0) (v := .int .i64 re) (List.mem_cons_of_mem _ (List.mem_cons_self ..)) rfl, LL.cell (i := 1) (v := .int .i64 im) (List.mem_cons_of_mem _ (List.mem_cons_self ..)) rfl, LL.cell (i := 2) (v := .int .i64 kd) (List.mem_cons_of_mem _ (List.mem_cons_self ..)) rfl, LL.cell (i := 0) (v := .slice (some ⟨g8, 0, none⟩) n c8) (List.mem_cons_self ..) rfl, LL.cell (i := 1) (v := .int .i64 K) (List.mem_cons_self ..) rfl, LL.cell (i := 2) (v := .int .i64 near) (List.mem_cons_self ..) rfl⟩
          have BK0 := Below.refl wr.drew.heap.size wr.drew
          go_region_held3 (fun W => Below wr.drew.heap.size wr.drew W ∧ W.cell? ⟨w.heap.size + 1, 0, none⟩ = some (.int .i64 re) ∧ W.cell? ⟨w.heap.size + 1, 1, none⟩ = some (.int .i64 im) ∧ W.cell? ⟨w.heap.size + 1, 2, none⟩ = some (.int .i64 kd) ∧ W.cell? ⟨g, 0, none⟩ = some (.slice (some ⟨g8, 0, none⟩) n c8) ∧ W.cell? ⟨g, 1, none⟩ = some (.int .i64 K) ∧ W.cell? ⟨g, 2, none⟩ = some (.int .i64 near))
            (first | (with_reducible exact sv.out _ BK0) | (with_reducible assumption) | (with_reducible exact sv.out _ (bt (And.left (by assumption)) hbw)) | (with_reducible exact sv.out _ (bt_alloc (And.left (by assumption)) _)) | (with_reducible exact sv.out _ (bt_allocd (And.left (by assumption)) _)) | (with_reducible exact sv.out _ (bt_re (And.left (by assumption)) (by assumption))) | (with_reducible exact sv.out _ (bt_set (And.left (by assumption)) (by assumption) _)))
            (first | (go_at_call 14; refine (hv _).mono ?_; rintro e w_ ⟨x2, y2, rfl, hNz, hbw⟩; have hge := bt_ge (And.left (by assumption)) hbw; (first | have hRR := RR.bel (k := 3) (t := 79) (by assumption) hbw | have hRR := RR.bel (rr79 _ _ _ _) hbw | have hRR := RR.bel (rr79d _ _ _ _) hbw | skip)) | (go_at_call 38; refine (hag2 _ (And.left (by assumption)) _ _ (by assumption)).mono ?_; rintro e w_ ⟨g9, c10, rfl, hg8, hown, hbw⟩; have hge := bt_ge (And.left (by assumption)) hbw; (first | have hRR := RR.bel (k := 3) (t := 79) (by assumption) hbw | have hRR := RR.bel (rr79 _ _ _ _) hbw | have hRR := RR.bel (rr79d _ _ _ _) hbw | skip)))
          all_goals
            rename_i hK
            first | exact ⟨rfl, _, _, _, _, _, rfl, LW.add (LD.out.bel hK.1) (heap_alloc_new _ _), hK.1, fin_alloc hws (by assumption) hg8 hown _⟩ | exact ⟨rfl, _, _, _, _, _, rfl, LW.add (LD.out.bel hK.1) (RR.setRow_row (k := 3) (t := 79) (by assumption) _), hK.1, fin_set hws (by first | assumption | (rw [World.size_alloc]; exact Nat.le_succ_of_le (by assumption))) hg8 hown _ (by first | exact RR.lt3 (by assumption) | (rw [World.size_alloc]; exact Nat.lt_succ_self _)) (by first | exact Nat.le_refl _ | assumption) _⟩

        rintro e_ a_ W7 ⟨rfl, h, x2, y2, g9, c10, rfl, l7, hb7, ho9, hh9, hg9, hwh⟩
        have L7 := Lib.hid l7
        have hn9 := own_ne HO8b.out hg9
        have h8r := own_blt HO8b.out
        have J7 : Hid (J2 w n g8 c8 gm cm g9 c10 c9 A9 (fzs ns) (zcells (plzs ns n)) [(h, 79, #[.slice (some ⟨g9, 0, none⟩) n c10, .int .i64 K, .int .i64 near]), (g, 79, #[.slice (some ⟨g8, 0, none⟩) n c8, .int .i64 K, .int .i64 near]), (w.heap.size + 1, 24, #[.int .i64 re, .int .i64 im, .int .i64 kd]), (w.heap.size, 77, #[.slice A n cap, .int .i64 k0, .int .i64 near])] W7) := Lib.hid ⟨⟨_, ownsRow_bel (W := wr.drew) HO8b.out hb7⟩, ownsRow_bel (W := wr.drew) HR7.out hb7, ownsRow_bel (W := wr.drew) HOMb.out hb7, ho9, l7⟩
        clear l7 ho9 HO8b HOMb HR7 LD hag2 hv
        have hrb := right_bd (rAll_at HRA.out hKn)
        have o1 := self_eq0 (fzs ns K).1 hrb.1
        have o2 := self_eq0 (fzs ns K).2 hrb.2
        clear hrb
        have f6 := L7.out.cell (i := 1) (v := .int .i64 K) (List.mem_cons_self ..) rfl
        have f7 := L7.out.cell (i := 1) (v := .int .i64 K) (List.mem_cons_of_mem _ (List.mem_cons_self ..)) rfl
        go_wp2
        clear f6 f7 o1 o2 L7
        have HS : Hid (∀ W, J2 w n g8 c8 gm cm g9 c10 c9 A9 (fzs ns) (zcells (plzs ns n)) [(h, 79, #[.slice (some ⟨g9, 0, none⟩) n c10, .int .i64 K, .int .i64 near]), (g, 79, #[.slice (some ⟨g8, 0, none⟩) n c8, .int .i64 K, .int .i64 near]), (w.heap.size + 1, 24, #[.int .i64 re, .int .i64 im, .int .i64 kd]), (w.heap.size, 77, #[.slice A n cap, .int .i64 k0, .int .i64 near])] W → ∀ j u, J2 w n g8 c8 gm cm g9 c10 c9 A9 (fzs ns) (zcells (plzs ns n)) [(h, 79, #[.slice (some ⟨g9, 0, none⟩) n c10, .int .i64 K, .int .i64 near]), (g, 79, #[.slice (some ⟨g8, 0, none⟩) n c8, .int .i64 K, .int .i64 near]), (w.heap.size + 1, 24, #[.int .i64 re, .int .i64 im, .int .i64 kd]), (w.heap.size, 77, #[.slice A n cap, .int .i64 k0, .int .i64 near])] (W.setCell ⟨g8, j, none⟩ u)) := Lib.hid fun W hI j u => J2_set hA8 h8m (by simpa [Value.ownBlock] using hn9) (by intro r hr; simp only [List.mem_cons, List.not_mem_nil, or_false] at hr; rcases hr with rfl | rfl | rfl | rfl <;> (dsimp only; omega)) (by omega) hI j u
        go_loopw [17] (fun i wq => ∃ (j : Nat), j ≤ n ∧ i = .int .i64 j ∧ Hid (J2 w n g8 c8 gm cm g9 c10 c9 A9 (fzs ns) (zcells (plzs ns n)) [(h, 79, #[.slice (some ⟨g9, 0, none⟩) n c10, .int .i64 K, .int .i64 near]), (g, 79, #[.slice (some ⟨g8, 0, none⟩) n c8, .int .i64 K, .int .i64 near]), (w.heap.size + 1, 24, #[.int .i64 re, .int .i64 im, .int .i64 kd]), (w.heap.size, 77, #[.slice A n cap, .int .i64 k0, .int .i64 near])] wq)) (fun i _ => n - (intOf i).toNat)
        case atStart => exact ⟨0, Nat.zero_le _, rfl, J7⟩
        case round =>
          clear J7
          obtain ⟨j, hj, rfl, HJ⟩ := hrel
          have q0 := HJ.out.2.2.2.2.cell (i := 0) (b := g) (v := .slice (some ⟨g8, 0, none⟩) n c8) (List.mem_cons_of_mem _ (List.mem_cons_self ..)) rfl
          by_cases hlt : j < n
          · obtain ⟨l, hl⟩ := HJ.out.1
            obtain ⟨u, hu⟩ := own_has hl hlt
            have q1 := hl.frozenAt j
            have HJ2 := Lib.hid (HS.out _ HJ.out j (.complex .f64 4619567317775286272 4619567317775286272))
            clear HJ hl HS
            have i1 : (0 : Int) ≤ (j : Int) := by omega
            have i2 : (j : Int) < (n : Int) := by omega
            go_wp2
            go_roundw
            case rel => exact ⟨j + 1, by omega, by go_num, HJ2⟩
            case measure => simp [intOf]; omega
          · obtain rfl : n = j := by omega
            clear hlt hj HS
            obtain ⟨g1, c1, e9, _, _⟩ := own_shape2 (by omega) HJ.out.2.1
            cases e9
            have q9 := HJ.out.2.2.2.2.cell (i := 0) (b := h) (v := .slice (some ⟨g9, 0, none⟩) n c10) (List.mem_cons_self ..) rfl
            go_wp2
            clear q0 q9
            obtain ⟨W8, hW8⟩ : ∃ W8, W8 = wr := ⟨_, rfl⟩
            subst hW8
            have HPT : Hid (∀ W, Below W8.heap.size W8 W → ∀ j, j < n → LW w 0 [(h, 79, #[.slice (some ⟨g9, 0, none⟩) n c10, .int .i64 K, .int .i64 near]), (g, 79, #[.slice (some ⟨g8, 0, none⟩) n c8, .int .i64 K, .int .i64 near]), (w.heap.size + 1, 24, #[.int .i64 re, .int .i64 im, .int .i64 kd]), (w.heap.size, 77, #[.slice A n cap, .int .i64 k0, .int .i64 near])] W ∧ W.cell? ⟨g9, j, none⟩ = some (cx (wd false (fzs ns j).1) (wd false (fzs ns j).2)) ∧ W.cell? ⟨g1, j, none⟩ = some (cx (wd false (fzs ns j).1) (wd false (fzs ns j).2)) ∧ W.cell? ⟨gm, j * 2, none⟩ = some (.int .i64 (fzs ns j).1) ∧ W.cell? ⟨gm, j * 2 + 1, none⟩ = some (.int .i64 (fzs ns j).2)) := Lib.hid fun W hW j hj => ⟨HJ.out.2.2.2.2.bel hW, own_pt (ownsRow_bel HJ.out.2.2.2.1 hW) (fun k hk => right_bd (rAll_at HRA.out hk)) hj, own_pt (ownsRow_bel HJ.out.2.1 hW) (fun k hk => right_bd (rAll_at HRA.out hk)) hj, own_zpt (ownsRow_bel HJ.out.2.2.1 hW) hj⟩
            clear HJ
            go_loopw [18] (fun i wt => ∃ (j : Nat), j ≤ n ∧ i = .int .i64 j ∧ Hid (Below W8.heap.size W8 wt)) (fun i _ => n - (intOf i).toNat)
            case atStart => exact ⟨0, Nat.zero_le _, rfl, Lib.hid (Below.refl _ _)⟩
            case round =>
              obtain ⟨j, hj, rfl, HB⟩ := hrel
              by_cases hlt : j < n
              · obtain ⟨b0, off, rfl, hbl, n0, n1, n2⟩ := HN.out.2 j hlt
                have i1 : (0 : Int) ≤ (j : Int) := by omega
                have i2 : (j : Int) < (n : Int) := by omega
                have his := HIS.out j hlt
                have hbj := right_bd (rAll_at HRA.out hlt)
                have o1 := self_eq0 (fzs ns j).1 hbj.1
                have o2 := self_eq0 (fzs ns j).2 hbj.2
                have hv3 : ∀ W, Calls Try.prog 14 #[.agg #[.int .i64 (nat_ ns j).1, .int .i64 (nat_ ns j).2.1, .int .i64 (nat_ ns j).2.2]] W fun e w' => e = .returned (cx (wd false (fzs ns j).1) (wd false (fzs ns j).2)) ∧ Below W.heap.size W w' := fun W => (value_any _ _ _ W).mono (by rintro e w' ⟨x, y, rfl, hN, hb⟩; obtain ⟨rfl, rfl⟩ := num_right hN (rAll_at HRA.out hlt); exact ⟨rfl, hb⟩)
                have sv : Hid (∀ W, Below wr.heap.size wr W → Below wr.heap.size wr W ∧ W.cell? ⟨h, 0, none⟩ = some (.slice (some ⟨g9, 0, none⟩) n c10) ∧ W.cell? ⟨g9, j, none⟩ = some (cx (wd false (fzs ns j).1) (wd false (fzs ns j).2)) ∧ W.cell? ⟨g1, j, none⟩ = some (cx (wd false (fzs ns j).1) (wd false (fzs ns j).2)) ∧ W.cell? ⟨gm, j * 2, none⟩ = some (.int .i64 (fzs ns j).1) ∧ W.cell? ⟨gm, j * 2 + 1, none⟩ = some (.int .i64 (fzs ns j).2) ∧ W.cell? ⟨w.heap.size, 0, none⟩ = some (.slice (some ⟨b0, off, none⟩) n cap) ∧ W.cell? ⟨b0, off + j * 3, none⟩ = some (.int .i64 (nat_ ns j).1) ∧ W.cell? ⟨b0, off + j * 3 + 1, none⟩ = some (.int .i64 (nat_ ns j).2.1) ∧ W.cell? ⟨b0, off + j * 3 + 2, none⟩ = some (.int .i64 (nat_ ns j).2.2)) := Lib.hid fun W hb => by
                  obtain ⟨l, c1, c2, c3, c4⟩ := HPT.out W (bt HB.out hb) j hlt
                  exact ⟨hb, l.cell (i := 0) (b := h) (v := .slice (some ⟨g9, 0, none⟩) n c10) (List.mem_cons_self ..) rfl, c1, c2, c3, c4, l.cell (i := 0) (b := w.heap.size) (v := .slice (some ⟨b0, off, none⟩) n cap) (List.mem_cons_of_mem _ (List.mem_cons_of_mem _ (List.mem_cons_of_mem _ (List.mem_cons_self ..)))) rfl, (l.below.cell (p := ⟨b0, off + j * 3, none⟩) hbl).trans n0, (l.below.cell (p := ⟨b0, off + j * 3 + 1, none⟩) hbl).trans n1, (l.below.cell (p := ⟨b0, off + j * 3 + 2, none⟩) hbl).trans n2⟩
                have BK0 := (Below.refl wr.heap.size wr).drew
                clear n0 n1 n2 hbj hbl
                generalize (fzs ns j).1 = X at *
                generalize (fzs ns j).2 = Y at *
                generalize (nat_ ns j).1 = N0 at *
                generalize (nat_ ns j).2.1 = N1 at *
                generalize (nat_ ns j).2.2 = N2 at *
                go_wp2_with fail
                go_region_held3 (fun W => Below wr.heap.size wr W ∧ W.cell? ⟨h, 0, none⟩ = some (.slice (some ⟨g9, 0, none⟩) n c10) ∧ W.cell? ⟨g9, j, none⟩ = some (cx (wd false X) (wd false Y)) ∧ W.cell? ⟨g1, j, none⟩ = some (cx (wd false X) (wd false Y)) ∧ W.cell? ⟨gm, j * 2, none⟩ = some (.int .i64 X) ∧ W.cell? ⟨gm, j * 2 + 1, none⟩ = some (.int .i64 Y) ∧ W.cell? ⟨w.heap.size, 0, none⟩ = some (.slice (some ⟨b0, off, none⟩) n cap) ∧ W.cell? ⟨b0, off + j * 3, none⟩ = some (.int .i64 N0) ∧ W.cell? ⟨b0, off + j * 3 + 1, none⟩ = some (.int .i64 N1) ∧ W.cell? ⟨b0, off + j * 3 + 2, none⟩ = some (.int .i64 N2))
                  (first | (with_reducible exact sv.out _ BK0) | (with_reducible assumption) | (with_reducible exact sv.out _ (bt (And.left (by assumption)) hbw)))
                  (first | (go_at_call 28; refine (his _).mono ?_; rintro e w_ ⟨rfl, hbw⟩) | (go_at_call 14; refine (hv3 _).mono ?_; rintro e w_ ⟨rfl, hbw⟩))
                rename_i hK
                have HB2 := Lib.hid (bt HB.out hK.1)
                clear hK sv BK0 his hv3
                go_wp2
                go_roundw
                case rel => exact ⟨j + 1, by omega, by go_num, HB2⟩
                case measure => simp [intOf]; omega
              · obtain rfl : n = j := by omega
                have LT := Lib.hid (HPT.out wr HB.out 0 (by omega)).1
                clear hlt hj HPT HIS
                go_wp2_with fail
                refine (awake_any _).mono ?_
                rintro e wz ⟨rfl, hb⟩
                have Lwz := Lib.hid (LT.out.bel hb)
                clear hb LT 
                go_wp2
                go_ret
                exact ⟨rfl, Lwz.out.below⟩
  · obtain ⟨c, hc⟩ : ∃ c : Int, (c = 1 ∧ (nx < 0 ∨ (n : Int) ≤ nx)) ∨ (c = 10 ∧ 0 ≤ nx ∧ nx < n ∧ (rAll ns n && rightB a b && decide (0 ≤ near)) = false) := by
      by_cases h1 : nx < 0 ∨ (n : Int) ≤ nx
      · exact ⟨1, .inl ⟨rfl, h1⟩⟩
      · exact ⟨10, .inr ⟨rfl, by omega, by omega, by
          cases hA : (rAll ns n && rightB a b && decide (0 ≤ near)) with
          | false => rfl
          | true => exact (hok ⟨by omega, by omega, hA⟩).elim⟩⟩
    have hfe : ∀ W, Below w1.drew.heap.size w1.drew W → ∀ x y, Num x y a b → Calls Try.prog 38 #[.agg #[.slice A9 n c9, .int .i64 nx, .int .i64 near], cx x y] W fun e w' => e = .returned (.tuple #[cx 0 0, .agg #[.slice none 0 0, .int .i64 0, .int .i64 0], .int .i64 c]) ∧ Below W.heap.size W w' := fun W hW x y hz => follow_err hn hxl HNA.out (ownsRow_bel (W := w1.drew) HR9.out hW) hz c hc
    have HC := Lib.hid hc
    clear hc hok
    go_wp2
    have LD := Lib.hid L1.out.drew
    clear L1
    refine Code.wp_mono (Q := fun e_ a_ W' => e_ = .normal ∧ ∃ g x y, a_ = ({ tmps := #[.agg #[.slice A n cap, .int .i64 nx, .int .i64 near], nb re im kd, .pointer (some ⟨w.heap.size, 0, none⟩), .pointer (some ⟨w.heap.size + 1, 0, none⟩), .bool false, .slice A9 n c9, cx 0 0, .pointer (some ⟨g, 0, none⟩), .int .i64 c, undef, undef, undef, undef, undef, undef, undef, undef, undef, undef, .pointer (some ⟨w.heap.size, 0, none⟩), .slice A n cap, .int .i64 n, .bool false, undef, .pointer (some ⟨w.heap.size, 0, none⟩), .slice A n cap, .slice A9 n c9, .tuple #[cx 0 0, .agg #[.slice none 0 0, .int .i64 0, .int .i64 0], .int .i64 c], .slice A9 n c9, .pointer (some ⟨w.heap.size, 1, none⟩), .int .i64 nx, .pointer (some ⟨w.heap.size, 2, none⟩), .int .i64 near, .agg #[.slice A9 n c9, .int .i64 nx, .int .i64 near], .agg #[.int .i64 re, .int .i64 im, .int .i64 kd], cx x y, .tuple #[cx 0 0, .agg #[.slice none 0 0, .int .i64 0, .int .i64 0], .int .i64 c], cx 0 0, .agg #[.slice none 0 0, .int .i64 0, .int .i64 0], .int .i64 c, undef, undef, undef, undef, undef, undef, undef, undef, undef, undef, undef, undef, undef, undef, undef, undef, undef, undef, undef, undef, undef, undef, undef, undef, undef, undef, undef, undef, undef, undef, undef, undef, undef, undef, undef, undef, undef, undef, undef, undef, undef, undef, undef, undef, undef, undef, undef, undef, undef, undef, undef, undef, undef, undef, undef, undef, undef, undef, undef, undef, undef, undef, undef, undef, undef, undef, undef, undef, undef, undef, undef, undef, undef, undef, undef, undef, undef, undef, undef, undef, undef, undef, undef, undef, undef, undef, undef, undef, undef, undef, undef, undef, undef, undef, undef, undef, undef, undef, undef, undef, undef, undef, undef, undef, undef, undef, undef, undef, undef, undef, undef, undef, undef, undef, undef, undef, undef, undef, undef, undef, undef, undef, undef, undef, undef, undef, undef, undef, undef, undef, undef, undef, undef, undef, undef, undef, undef, undef, undef, undef, undef, undef, undef, undef, undef, undef, undef, undef, undef, undef, undef, undef, undef, undef, undef, undef, undef, undef, undef, undef, undef, undef, undef, undef, undef, undef, undef, undef, undef, undef, undef, undef, undef, undef, undef, undef, undef], defers := [] } : Act) ∧ LW w 0 [(g, 79, #[.slice none 0 0, .int .i64 0, .int .i64 0]), (w.heap.size + 1, 24, #[.int .i64 re, .int .i64 im, .int .i64 kd]), (w.heap.size, 77, #[.slice A n cap, .int .i64 nx, .int .i64 near])] W') ?impe4 ?rege4
    case rege4 =>
      clear hrn hpl hpl5
      have hge0 : w1.drew.heap.size ≤ w1.heap.size := Nat.le_refl _
      have sv : Hid (∀ W, Below w1.drew.heap.size w1.drew W → Below w1.drew.heap.size w1.drew W ∧ W.cell? ⟨w.heap.size + 1, 0, none⟩ = some (.int .i64 re) ∧ W.cell? ⟨w.heap.size + 1, 1, none⟩ = some (.int .i64 im) ∧ W.cell? ⟨w.heap.size + 1, 2, none⟩ = some (.int .i64 kd) ∧ W.cell? ⟨w.heap.size, 0, none⟩ = some (.slice A n cap) ∧ W.cell? ⟨w.heap.size, 1, none⟩ = some (.int .i64 nx) ∧ W.cell? ⟨w.heap.size, 2, none⟩ = some (.int .i64 near)) := Lib.hid fun W hb => by
        have LL := LD.out.bel hb
        exact ⟨hb, LL.cell (i := 0) (v := .int .i64 re) (List.mem_cons_self ..) rfl, LL.cell (i := 1) (v := .int .i64 im) (List.mem_cons_self ..) rfl, LL.cell (i := 2) (v := .int .i64 kd) (List.mem_cons_self ..) rfl, LL.cell (i := 0) (v := .slice A n cap) (List.mem_cons_of_mem _ (List.mem_cons_self ..)) rfl, LL.cell (i := 1) (v := .int .i64 nx) (List.mem_cons_of_mem _ (List.mem_cons_self ..)) rfl, LL.cell (i := 2) (v := .int .i64 near) (List.mem_cons_of_mem _ (List.mem_cons_self ..)) rfl⟩
      have BK0 := Below.refl w1.drew.heap.size w1.drew
      go_region_held3 (fun W => Below w1.drew.heap.size w1.drew W ∧ W.cell? ⟨w.heap.size + 1, 0, none⟩ = some (.int .i64 re) ∧ W.cell? ⟨w.heap.size + 1, 1, none⟩ = some (.int .i64 im) ∧ W.cell? ⟨w.heap.size + 1, 2, none⟩ = some (.int .i64 kd) ∧ W.cell? ⟨w.heap.size, 0, none⟩ = some (.slice A n cap) ∧ W.cell? ⟨w.heap.size, 1, none⟩ = some (.int .i64 nx) ∧ W.cell? ⟨w.heap.size, 2, none⟩ = some (.int .i64 near))
        (first | (with_reducible exact sv.out _ BK0) | (with_reducible assumption) | (with_reducible exact sv.out _ (bt (And.left (by assumption)) hbw)) | (with_reducible exact sv.out _ (bt_alloc (And.left (by assumption)) _)) | (with_reducible exact sv.out _ (bt_allocd (And.left (by assumption)) _)) | (with_reducible exact sv.out _ (bt_re (And.left (by assumption)) (by assumption))) | (with_reducible exact sv.out _ (bt_set (And.left (by assumption)) (by assumption) _)))
        (first | (go_at_call 14; refine (hv _).mono ?_; rintro e w_ ⟨x, y, rfl, hNz, hbw⟩; have hge := bt_ge (And.left (by assumption)) hbw; (first | have hRR := RR.bel (k := 3) (t := 79) (by assumption) hbw | have hRR := RR.bel (rr79 _ _ _ _) hbw | have hRR := RR.bel (rr79d _ _ _ _) hbw | skip)) | (go_at_call 38; refine (hfe _ (And.left (by assumption)) _ _ (by assumption)).mono ?_; rintro e w_ ⟨rfl, hbw⟩; have hge := bt_ge (And.left (by assumption)) hbw; (first | have hRR := RR.bel (k := 3) (t := 79) (by assumption) hbw | have hRR := RR.bel (rr79 _ _ _ _) hbw | have hRR := RR.bel (rr79d _ _ _ _) hbw | skip)))
      all_goals
        rename_i hK
        first | exact ⟨rfl, _, _, _, rfl, LW.add (LD.out.bel hK.1) (heap_alloc_new _ _)⟩ | exact ⟨rfl, _, _, _, rfl, LW.add (LD.out.bel hK.1) (RR.setRow_row (k := 3) (t := 79) (by assumption) _)⟩
    rintro e_ a_ W2 ⟨rfl, g, x, y, rfl, l2⟩
    have L2 := Lib.hid l2
    clear l2 LD hfe
    have f0 := L2.out.cell (i := 0) (v := .slice A n cap) (List.mem_cons_of_mem _ (List.mem_cons_of_mem _ (List.mem_cons_self ..))) rfl
    go_wp2_with fail
    refine (hpl5 _ L2.out.below).mono ?_
    rintro e w3 ⟨v, rfl, hown, hb⟩
    have Lw3 := Lib.hid (L2.out.bel hb)
    obtain ⟨Am, cm, rfl⟩ := own_slice hown
    clear hown
    clear hb L2 f0
    clear hpl5
    have hz0 : Ieee.double.order 0 0 = some .eq := by decide
    rcases HC.out with ⟨rfl, h1⟩ | ⟨rfl, h0, h1, h2⟩
    · clear HC hrn hv
      by_cases h3 : nx < 0
      · have t0 : decide (nx < 0) = true := by simpa using h3
        clear h1 h3
        have f0 := Lw3.out.cell (i := 0) (v := .slice A n cap) (List.mem_cons_of_mem _ (List.mem_cons_of_mem _ (List.mem_cons_self ..))) rfl
        have f1 := Lw3.out.cell (i := 1) (v := .int .i64 nx) (List.mem_cons_of_mem _ (List.mem_cons_of_mem _ (List.mem_cons_self ..))) rfl
        have f2 := Lw3.out.cell (i := 2) (v := .int .i64 near) (List.mem_cons_of_mem _ (List.mem_cons_of_mem _ (List.mem_cons_self ..))) rfl
        have f3 := Lw3.out.cell (i := 0) (v := .int .i64 re) (List.mem_cons_of_mem _ (List.mem_cons_self ..)) rfl
        have f4 := Lw3.out.cell (i := 1) (v := .int .i64 im) (List.mem_cons_of_mem _ (List.mem_cons_self ..)) rfl
        have f5 := Lw3.out.cell (i := 2) (v := .int .i64 kd) (List.mem_cons_of_mem _ (List.mem_cons_self ..)) rfl
        have f6 := Lw3.out.cell (i := 0) (v := .slice none 0 0) (List.mem_cons_self ..) rfl
        have f7 := Lw3.out.cell (i := 1) (v := .int .i64 0) (List.mem_cons_self ..) rfl
        have f8 := Lw3.out.cell (i := 2) (v := .int .i64 0) (List.mem_cons_self ..) rfl
        go_wp2_with fail
        refine (awake_any _).mono ?_
        rintro e wz ⟨rfl, hb⟩
        have Lwz := Lib.hid (Lw3.out.bel hb)
        clear hb Lw3 f0 f1 f2 f3 f4 f5 f6 f7 f8
        go_wp2
        go_ret
        exact ⟨rfl, Lwz.out.below⟩
      · have t0 : decide (nx < 0) = false := by simpa using h3
        have t1 : decide (nx ≥ (n : Int)) = true := by simp; omega
        clear h1 h3
        have f0 := Lw3.out.cell (i := 0) (v := .slice A n cap) (List.mem_cons_of_mem _ (List.mem_cons_of_mem _ (List.mem_cons_self ..))) rfl
        have f1 := Lw3.out.cell (i := 1) (v := .int .i64 nx) (List.mem_cons_of_mem _ (List.mem_cons_of_mem _ (List.mem_cons_self ..))) rfl
        have f2 := Lw3.out.cell (i := 2) (v := .int .i64 near) (List.mem_cons_of_mem _ (List.mem_cons_of_mem _ (List.mem_cons_self ..))) rfl
        have f3 := Lw3.out.cell (i := 0) (v := .int .i64 re) (List.mem_cons_of_mem _ (List.mem_cons_self ..)) rfl
        have f4 := Lw3.out.cell (i := 1) (v := .int .i64 im) (List.mem_cons_of_mem _ (List.mem_cons_self ..)) rfl
        have f5 := Lw3.out.cell (i := 2) (v := .int .i64 kd) (List.mem_cons_of_mem _ (List.mem_cons_self ..)) rfl
        have f6 := Lw3.out.cell (i := 0) (v := .slice none 0 0) (List.mem_cons_self ..) rfl
        have f7 := Lw3.out.cell (i := 1) (v := .int .i64 0) (List.mem_cons_self ..) rfl
        have f8 := Lw3.out.cell (i := 2) (v := .int .i64 0) (List.mem_cons_self ..) rfl
        go_wp2_with fail
        refine (awake_any _).mono ?_
        rintro e wz ⟨rfl, hb⟩
        have Lwz := Lib.hid (Lw3.out.bel hb)
        clear hb Lw3 f0 f1 f2 f3 f4 f5 f6 f7 f8
        go_wp2
        go_ret
        exact ⟨rfl, Lwz.out.below⟩
    · have t0 : decide (nx < 0) = false := by simp; omega
      have t1 : decide (nx ≥ (n : Int)) = false := by simp; omega
      clear h0 h1 HC hv
      generalize rAll ns n = p at *
      generalize rightB a b = q at *
      cases p with
      | false =>
        clear h2 hrn
        have f0 := Lw3.out.cell (i := 0) (v := .slice A n cap) (List.mem_cons_of_mem _ (List.mem_cons_of_mem _ (List.mem_cons_self ..))) rfl
        have f1 := Lw3.out.cell (i := 1) (v := .int .i64 nx) (List.mem_cons_of_mem _ (List.mem_cons_of_mem _ (List.mem_cons_self ..))) rfl
        have f2 := Lw3.out.cell (i := 2) (v := .int .i64 near) (List.mem_cons_of_mem _ (List.mem_cons_of_mem _ (List.mem_cons_self ..))) rfl
        have f3 := Lw3.out.cell (i := 0) (v := .int .i64 re) (List.mem_cons_of_mem _ (List.mem_cons_self ..)) rfl
        have f4 := Lw3.out.cell (i := 1) (v := .int .i64 im) (List.mem_cons_of_mem _ (List.mem_cons_self ..)) rfl
        have f5 := Lw3.out.cell (i := 2) (v := .int .i64 kd) (List.mem_cons_of_mem _ (List.mem_cons_self ..)) rfl
        have f6 := Lw3.out.cell (i := 0) (v := .slice none 0 0) (List.mem_cons_self ..) rfl
        have f7 := Lw3.out.cell (i := 1) (v := .int .i64 0) (List.mem_cons_self ..) rfl
        have f8 := Lw3.out.cell (i := 2) (v := .int .i64 0) (List.mem_cons_self ..) rfl
        go_wp2_with fail
        refine (awake_any _).mono ?_
        rintro e wz ⟨rfl, hb⟩
        have Lwz := Lib.hid (Lw3.out.bel hb)
        clear hb Lw3 f0 f1 f2 f3 f4 f5 f6 f7 f8
        go_wp2
        go_ret
        exact ⟨rfl, Lwz.out.below⟩
      | true =>
        cases q with
        | false =>
          clear h2
          have f0 := Lw3.out.cell (i := 0) (v := .slice A n cap) (List.mem_cons_of_mem _ (List.mem_cons_of_mem _ (List.mem_cons_self ..))) rfl
          have f1 := Lw3.out.cell (i := 1) (v := .int .i64 nx) (List.mem_cons_of_mem _ (List.mem_cons_of_mem _ (List.mem_cons_self ..))) rfl
          have f2 := Lw3.out.cell (i := 2) (v := .int .i64 near) (List.mem_cons_of_mem _ (List.mem_cons_of_mem _ (List.mem_cons_self ..))) rfl
          have f3 := Lw3.out.cell (i := 0) (v := .int .i64 re) (List.mem_cons_of_mem _ (List.mem_cons_self ..)) rfl
          have f4 := Lw3.out.cell (i := 1) (v := .int .i64 im) (List.mem_cons_of_mem _ (List.mem_cons_self ..)) rfl
          have f5 := Lw3.out.cell (i := 2) (v := .int .i64 kd) (List.mem_cons_of_mem _ (List.mem_cons_self ..)) rfl
          have f6 := Lw3.out.cell (i := 0) (v := .slice none 0 0) (List.mem_cons_self ..) rfl
          have f7 := Lw3.out.cell (i := 1) (v := .int .i64 0) (List.mem_cons_self ..) rfl
          have f8 := Lw3.out.cell (i := 2) (v := .int .i64 0) (List.mem_cons_self ..) rfl
          go_wp2_with fail
          refine (hrn _).mono ?_
          rintro e w4 ⟨rfl, hb⟩
          have Lw4 := Lib.hid (Lw3.out.bel hb)
          clear hb Lw3 f0 f1 f2 f3 f4 f5 f6 f7 f8
          have f9 := Lw4.out.cell (i := 0) (v := .slice A n cap) (List.mem_cons_of_mem _ (List.mem_cons_of_mem _ (List.mem_cons_self ..))) rfl
          have f10 := Lw4.out.cell (i := 1) (v := .int .i64 nx) (List.mem_cons_of_mem _ (List.mem_cons_of_mem _ (List.mem_cons_self ..))) rfl
          have f11 := Lw4.out.cell (i := 2) (v := .int .i64 near) (List.mem_cons_of_mem _ (List.mem_cons_of_mem _ (List.mem_cons_self ..))) rfl
          have f12 := Lw4.out.cell (i := 0) (v := .slice none 0 0) (List.mem_cons_self ..) rfl
          have f13 := Lw4.out.cell (i := 1) (v := .int .i64 0) (List.mem_cons_self ..) rfl
          have f14 := Lw4.out.cell (i := 2) (v := .int .i64 0) (List.mem_cons_self ..) rfl
          go_wp2_with fail
          refine (awake_any _).mono ?_
          rintro e wz ⟨rfl, hb⟩
          have Lwz := Lib.hid (Lw4.out.bel hb)
          clear hb Lw4 f9 f10 f11 f12 f13 f14
          go_wp2
          go_ret
          exact ⟨rfl, Lwz.out.below⟩
        | true =>
          have t2 : decide (near < 0) = true := by simp at h2; simpa using h2
          clear h2
          have f0 := Lw3.out.cell (i := 0) (v := .slice A n cap) (List.mem_cons_of_mem _ (List.mem_cons_of_mem _ (List.mem_cons_self ..))) rfl
          have f1 := Lw3.out.cell (i := 1) (v := .int .i64 nx) (List.mem_cons_of_mem _ (List.mem_cons_of_mem _ (List.mem_cons_self ..))) rfl
          have f2 := Lw3.out.cell (i := 2) (v := .int .i64 near) (List.mem_cons_of_mem _ (List.mem_cons_of_mem _ (List.mem_cons_self ..))) rfl
          have f3 := Lw3.out.cell (i := 0) (v := .int .i64 re) (List.mem_cons_of_mem _ (List.mem_cons_self ..)) rfl
          have f4 := Lw3.out.cell (i := 1) (v := .int .i64 im) (List.mem_cons_of_mem _ (List.mem_cons_self ..)) rfl
          have f5 := Lw3.out.cell (i := 2) (v := .int .i64 kd) (List.mem_cons_of_mem _ (List.mem_cons_self ..)) rfl
          have f6 := Lw3.out.cell (i := 0) (v := .slice none 0 0) (List.mem_cons_self ..) rfl
          have f7 := Lw3.out.cell (i := 1) (v := .int .i64 0) (List.mem_cons_self ..) rfl
          have f8 := Lw3.out.cell (i := 2) (v := .int .i64 0) (List.mem_cons_self ..) rfl
          go_wp2_with fail
          refine (hrn _).mono ?_
          rintro e w4 ⟨rfl, hb⟩
          have Lw4 := Lib.hid (Lw3.out.bel hb)
          clear hb Lw3 f0 f1 f2 f3 f4 f5 f6 f7 f8
          have f9 := Lw4.out.cell (i := 0) (v := .slice A n cap) (List.mem_cons_of_mem _ (List.mem_cons_of_mem _ (List.mem_cons_self ..))) rfl
          have f10 := Lw4.out.cell (i := 1) (v := .int .i64 nx) (List.mem_cons_of_mem _ (List.mem_cons_of_mem _ (List.mem_cons_self ..))) rfl
          have f11 := Lw4.out.cell (i := 2) (v := .int .i64 near) (List.mem_cons_of_mem _ (List.mem_cons_of_mem _ (List.mem_cons_self ..))) rfl
          have f12 := Lw4.out.cell (i := 0) (v := .slice none 0 0) (List.mem_cons_self ..) rfl
          have f13 := Lw4.out.cell (i := 1) (v := .int .i64 0) (List.mem_cons_self ..) rfl
          have f14 := Lw4.out.cell (i := 2) (v := .int .i64 0) (List.mem_cons_self ..) rfl
          go_wp2_with fail
          refine (awake_any _).mono ?_
          rintro e wz ⟨rfl, hb⟩
          have Lwz := Lib.hid (Lw4.out.bel hb)
          clear hb Lw4 f9 f10 f11 f12 f13 f14
          go_wp2
          go_ret
          exact ⟨rfl, Lwz.out.below⟩
end Go.Proofs.Ytbgllbjkmjlipaa
