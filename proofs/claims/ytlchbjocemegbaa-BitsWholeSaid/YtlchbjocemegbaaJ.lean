/- bits.Join and aileronref02.Join: the word of numbers in a row. -/
import Derived.Test.YtlchbjocemegbaaY
namespace Go.Proofs.Ytlchbjocemegbaa
open Go.RowKit Go.Shelf
attribute [local go_sem ↓] Go.wp_at_zero Go.wp_at_succ

/-- A slice value that holds n fields, at the head of a block. -/
def Flds (W : World) (v : Value) (n : Nat) (fs : List (Nat × Nat)) : Prop :=
  fs.length = n ∧ ∃ A cap, v = .slice A n cap ∧ ∀ k, k < n → ∃ g, A = some ⟨g, 0, none⟩ ∧ g < W.heap.size ∧ W.cell? ⟨g, k * 2, none⟩ = some (.int .i64 (fs[k]?.getD (0, 0)).1) ∧ W.cell? ⟨g, k * 2 + 1, none⟩ = some (.int .i64 (fs[k]?.getD (0, 0)).2)
theorem cellsOf_at (fs : List (Nat × Nat)) (k : Nat) (hk : k < fs.length) : (cellsOf fs)[k * 2]? = some (.int .i64 (fs[k]?.getD (0, 0)).1) ∧ (cellsOf fs)[k * 2 + 1]? = some (.int .i64 (fs[k]?.getD (0, 0)).2) := by
  induction fs generalizing k with
  | nil => simp at hk
  | cons x r ih =>
    cases k with
    | zero => simp [cellsOf]
    | succ k =>
      have := ih k (by simpa using hk)
      have e : (k + 1) * 2 = k * 2 + 2 := by omega
      rw [e]
      simpa [cellsOf] using this
theorem flds_of_own {W : World} {base : Nat} {e : TypeId} {v : Value} {fs : List (Nat × Nat)} (h : W.ownsRow base e 2 v fs.length (cellsOf fs)) : Flds W v fs.length fs := by
  refine ⟨rfl, ?_⟩
  rcases h.2 with ⟨rfl, h0⟩ | ⟨g, cap, cur, rfl, hb, hg, _⟩
  · exact ⟨none, 0, by rw [h0], fun k hk => by omega⟩
  · have hlt := (Array.getElem?_eq_some_iff.1 hg).1
    refine ⟨_, cap, rfl, fun k hk => ⟨g, rfl, hlt, ?_⟩⟩
    have hadd : ∀ j, (⟨g, 0, none⟩ : Addr).add j = ⟨g, j, none⟩ := fun j => by unfold Addr.add; split <;> simp_all
    have hc := h.cells (g := g) rfl
    obtain ⟨h1, h2⟩ := cellsOf_at fs k hk
    exact ⟨by rw [← hadd]; exact hc _ _ h1, by rw [← hadd]; exact hc _ _ h2⟩

/-- A slice of words that lies below block B. -/
def Wrds (W : World) (B : Nat) (A : Option Addr) (n : Nat) (xs : List Nat) : Prop :=
  xs.length = n ∧ ∀ k, k < n → ∃ b off, A = some ⟨b, off, none⟩ ∧ b < B ∧ W.cell? ⟨b, off + k, none⟩ = some (.int .u64 (xs[k]?.getD 0 : Nat))
theorem Wrds.below {W W' : World} {B : Nat} {A : Option Addr} {n : Nat} {zs : List Nat} (h : Wrds W B A n zs) (hb : Below B W W') : Wrds W' B A n zs :=
  ⟨h.1, fun k hk => by
    obtain ⟨b, off, e, hlt, hc⟩ := h.2 k hk
    exact ⟨b, off, e, hlt, (hb.cell (p := ⟨b, off + k, none⟩) hlt).trans hc⟩⟩
theorem Wrds.more {W : World} {B B' : Nat} {A : Option Addr} {n : Nat} {zs : List Nat} (h : Wrds W B A n zs) (hb : B ≤ B') : Wrds W B' A n zs :=
  ⟨h.1, fun k hk => by
    obtain ⟨b, off, e, hlt, hc⟩ := h.2 k hk
    exact ⟨b, off, e, by omega, hc⟩⟩

/-! ### The plain law -/
/-- A field that rows make. -/
def okF (x : Nat × Nat) : Prop := x.1 ≤ 63 ∧ 1 ≤ x.2 ∧ x.2 ≤ 64 ∧ x.1 + x.2 ≤ 64
theorem rowGo_ok (at_ : Nat) (zs : List Int) : ∀ x ∈ (rowGo at_ zs).1, okF x := by
  induction zs generalizing at_ with
  | nil => simp [rowGo]
  | cons n r ih =>
    rw [rowGo]
    split
    · simp
    · split
      · simp
      · intro x hx
        simp only [List.mem_cons] at hx
        rcases hx with rfl | hx
        · unfold okF; omega
        · exact ih _ x hx
theorem fieldsOf_ok (zs : List Int) : ∀ x ∈ fieldsOf zs, okF x := by
  unfold fieldsOf; split
  · exact rowGo_ok 0 zs
  · simp
theorem fieldsOf_len (zs : List Int) : (fieldsOf zs).length ≤ 64 := by
  unfold fieldsOf; split
  · have := rowGo_len 0 zs (by omega); omega
  · simp

def joinGo : List (Nat × Nat) → List Nat → Nat → Nat × Int
  | f :: fs, x :: xs, w => if x ≤ maxW f.2 then joinGo fs xs (setW f.1 f.2 w x) else (0, 10)
  | _, _, w => (w, 0)
def joinF (zs : List Int) (xs : List Nat) : Nat × Int :=
  if (rowGo 0 zs).2 ≠ 0 then (0, (rowGo 0 zs).2) else if xs.length ≠ (fieldsOf zs).length then (0, 17) else joinGo (fieldsOf zs) xs 0

theorem joinGo_step {fs : List (Nat × Nat)} {xs : List Nat} {k : Nat} {w : Nat} (h1 : k < fs.length) (h2 : k < xs.length) :
    joinGo (fs.drop k) (xs.drop k) w = if xs[k]?.getD 0 ≤ maxW (fs[k]?.getD (0, 0)).2 then joinGo (fs.drop (k + 1)) (xs.drop (k + 1)) (setW (fs[k]?.getD (0, 0)).1 (fs[k]?.getD (0, 0)).2 w (xs[k]?.getD 0)) else (0, 10) := by
  rw [List.drop_eq_getElem_cons h1, List.drop_eq_getElem_cons h2, joinGo]
  simp [h1, h2]
theorem joinGo_end {fs : List (Nat × Nat)} {xs : List Nat} {k : Nat} {w : Nat} (h1 : fs.length ≤ k) : joinGo (fs.drop k) (xs.drop k) w = (w, 0) := by
  rw [List.drop_of_length_le h1]
  cases xs.drop k <;> rfl
theorem getD_ok {fs : List (Nat × Nat)} (h : ∀ x ∈ fs, okF x) {k : Nat} (hk : k < fs.length) : okF (fs[k]?.getD (0, 0)) := by
  simp [hk]
  exact h _ (List.getElem_mem hk)

def JoinPost (w : World) (zs : List Int) (xs : List Nat) (e : Ending) (W' : World) : Prop :=
  e = .returned (.tuple #[.int .u64 ((joinF zs xs).1 : Nat), .int .i64 (joinF zs xs).2]) ∧ Below w.heap.size w W'
theorem join_post {w W' : World} {zs : List Int} {xs : List Nat} {a : Nat} {c : Int} (h : joinF zs xs = (a, c)) (hb : Below w.heap.size w W') : JoinPost w zs xs (.returned (.tuple #[.int .u64 a, .int .i64 c])) W' :=
  ⟨by rw [h], hb⟩

theorem keep3 {w1 : World} {B b o : Nat} {v0 v1 v2 : Value} {W W' : World} (h : W.cell? ⟨B, 0, none⟩ = some v0 ∧ W.cell? ⟨B, 1, none⟩ = some v1 ∧ W.cell? ⟨b, o, none⟩ = some v2 ∧ Below w1.heap.size w1 W ∧ B < W.heap.size ∧ b < W.heap.size ∧ w1.heap.size ≤ W.heap.size) (hb : Below W.heap.size W W') :
    W'.cell? ⟨B, 0, none⟩ = some v0 ∧ W'.cell? ⟨B, 1, none⟩ = some v1 ∧ W'.cell? ⟨b, o, none⟩ = some v2 ∧ Below w1.heap.size w1 W' ∧ B < W'.heap.size ∧ b < W'.heap.size ∧ w1.heap.size ≤ W'.heap.size := by
  obtain ⟨h0, h1, h2, h3, h4, h5, h6⟩ := h
  have := hb.size
  exact ⟨(hb.cell (p := ⟨B, 0, none⟩) h4).trans h0, (hb.cell (p := ⟨B, 1, none⟩) h4).trans h1, (hb.cell (p := ⟨b, o, none⟩) h5).trans h2, h3.trans (hb.mono h6), by omega, by omega, by omega⟩
theorem keep3_0 {w1 wr : World} {b o : Nat} {v0 v1 v2 : Value} {t : TypeId} (hb : Below w1.heap.size w1 wr) (h : wr.cell? ⟨b, o, none⟩ = some v2) (hlt : b < wr.heap.size) :
    (wr.alloc (.cells #[v0, v1] t)).drew.cell? ⟨wr.heap.size, 0, none⟩ = some v0 ∧ (wr.alloc (.cells #[v0, v1] t)).drew.cell? ⟨wr.heap.size, 1, none⟩ = some v1 ∧ (wr.alloc (.cells #[v0, v1] t)).drew.cell? ⟨b, o, none⟩ = some v2 ∧
      Below w1.heap.size w1 (wr.alloc (.cells #[v0, v1] t)).drew ∧ wr.heap.size < (wr.alloc (.cells #[v0, v1] t)).drew.heap.size ∧ b < (wr.alloc (.cells #[v0, v1] t)).drew.heap.size ∧ w1.heap.size ≤ (wr.alloc (.cells #[v0, v1] t)).drew.heap.size := by
  have e : (wr.alloc (.cells #[v0, v1] t)).drew.heap.size = wr.heap.size + 1 := by show (wr.alloc (.cells #[v0, v1] t)).heap.size = _; simp
  have hs := hb.size
  refine ⟨?_, ?_, ?_, (hb.alloc hs _).drew, by omega, by omega, by omega⟩
  · show (wr.alloc (.cells #[v0, v1] t)).cell? ⟨wr.heap.size, 0, none⟩ = some v0
    rw [cell_of_row _ _ _ _ _ _ (heap_alloc_new wr _)]; rfl
  · show (wr.alloc (.cells #[v0, v1] t)).cell? ⟨wr.heap.size, 1, none⟩ = some v1
    rw [cell_of_row _ _ _ _ _ _ (heap_alloc_new wr _)]; rfl
  · show (wr.alloc (.cells #[v0, v1] t)).cell? ⟨b, o, none⟩ = some v2
    rw [World.cell?_alloc_lt wr _ _ hlt]; exact h

theorem ok_may {a l : Nat} (h : okF (a, l)) : mayB a l = true := (may_yes (by unfold okF at h; simp at h; omega)).symm
theorem ok_max {a l : Nat} (h : okF (a, l)) : maxF a l = maxW l := by simp [maxF, ok_may h]

set_option maxRecDepth 100000 in
set_option maxHeartbeats 2000000 in
theorem join_any (A X : Option Addr) (len cap m cx : Nat) (zs : List Int) (xs : List Nat) (hlen : len ≤ 80) (hm : m ≤ 9223372036854775807) (hxs : ∀ y ∈ xs, y < 18446744073709551616) (w : World) (hN : Nums w w.heap.size A len zs) (hX : Wrds w w.heap.size X m xs) :
    Calls Try.prog 28 #[.slice A len cap, .slice X m cx] w (JoinPost w zs xs) := by
  by_cases c0 : (rowGo 0 zs).2 = 0
  · have hc0 : ((rowGo 0 zs).2 != 0) = false := by simp [bne, c0]
    have HC := Lib.hid c0
    have HF := Lib.hid (fieldsOf_ok zs)
    have h64 := fieldsOf_len zs
    go_enter Try.func28, Try.ntmps28
    go_wp2_with fail
    refine (row_fields A len cap zs hlen _ hN).mono ?_
    rintro e w1 ⟨v, rfl, hown, hb1⟩
    obtain ⟨hfl, A1, cap1, rfl, hcell⟩ := flds_of_own hown
    have HX1 := Lib.hid (hX.below hb1)
    have HCL := Lib.hid hcell
    clear hX hN hown hcell hfl c0
    by_cases c1 : m = (fieldsOf zs).length
    · subst c1
      have hd : ((fieldsOf zs).length != (fieldsOf zs).length) = false := by simp [bne]
      go_wp2_with fail
      go_loopw [8, 26] (fun v i wr => ∃ k y : Nat, k ≤ (fieldsOf zs).length ∧ y < 18446744073709551616 ∧ i = .int .i64 k ∧ v = .int .u64 y ∧ Hid (joinF zs xs = joinGo ((fieldsOf zs).drop k) (xs.drop k) y) ∧ Below w1.heap.size w1 wr) (fun _ i _ => (fieldsOf zs).length - (intOf i).toNat)
      case atStart => exact ⟨0, 0, by omega, by omega, rfl, rfl, by unfold Hid joinF; rw [if_neg (by rw [HC.out]; simp), if_neg (by rw [HX1.out.1]; simp)]; simp, Below.refl _ _⟩
      case round =>
        obtain ⟨k, y, hk, hy, rfl, rfl, HJ, hb⟩ := hrel
        by_cases hlt : k < (fieldsOf zs).length
        · obtain ⟨g, rfl, hg, hcA, hcL⟩ := HCL.out k hlt
          obtain ⟨b, off, rfl, hbl, hcx0⟩ := HX1.out.2 k hlt
          have hs1 := hb1.size
          have hcx := (hb.cell (p := ⟨b, off + k, none⟩) (show b < w1.heap.size by omega)).trans hcx0
          have hcA' := (hb.cell (p := ⟨g, k * 2, none⟩) hg).trans hcA
          have hcL' := (hb.cell (p := ⟨g, k * 2 + 1, none⟩) hg).trans hcL
          have hok := getD_ok HF.out hlt
          have HS := Lib.hid (HJ.out.trans (joinGo_step hlt (by rw [HX1.out.1]; exact hlt)))
          have hzx : xs[k]?.getD 0 < 18446744073709551616 := by
            have : k < xs.length := by rw [HX1.out.1]; exact hlt
            simp [this]; exact hxs _ (List.getElem_mem _)
          clear hcA hcL hcx0 HJ
          generalize (fieldsOf zs)[k]?.getD (0, 0) = f at hcA' hcL' hok HS
          generalize xs[k]?.getD 0 = z at hcx HS hzx
          obtain ⟨a, l⟩ := f
          dsimp only at hcA' hcL' HS
          have hbs : b < wr.heap.size := by have := hb.size; omega
          by_cases c2 : z ≤ maxW l
          · have HT := Lib.hid (HS.out.trans (if_pos c2))
            have hmay := ok_may hok
            have hmx : z ≤ maxF a l := by rw [ok_max hok]; exact c2
            clear HS c2
            go_wp2_with fail
            go_region_held3 (fun w' => w'.cell? ⟨wr.heap.size, 0, none⟩ = some (.int .i64 a) ∧ w'.cell? ⟨wr.heap.size, 1, none⟩ = some (.int .i64 l) ∧ w'.cell? ⟨b, off + k, none⟩ = some (.int .u64 z) ∧ Below w1.heap.size w1 w' ∧ wr.heap.size < w'.heap.size ∧ b < w'.heap.size ∧ w1.heap.size ≤ w'.heap.size)
              (first | exact keep3 (by assumption) hbw | exact keep3_0 hb hcx hbs)
              (first | (go_at_call 21; refine (put_yes a l y z hy hmay hmx _).mono ?_; rintro e w2 ⟨rfl, hbw⟩))
            obtain ⟨_, _, _, hb2, _⟩ : w2.cell? ⟨wr.heap.size, 0, none⟩ = some (.int .i64 a) ∧ w2.cell? ⟨wr.heap.size, 1, none⟩ = some (.int .i64 l) ∧ w2.cell? ⟨b, off + k, none⟩ = some (.int .u64 z) ∧ Below w1.heap.size w1 w2 ∧ wr.heap.size < w2.heap.size ∧ b < w2.heap.size ∧ w1.heap.size ≤ w2.heap.size := by assumption
            go_wp2
            go_roundw
            case rel => exact ⟨k + 1, setW a l y z, by omega, setW_lt _ _ _ _, by go_num, by simp [setF], HT, hb2⟩
            case measure => simp [intOf]; omega
          · have HT := Lib.hid (HS.out.trans (if_neg c2))
            have hmay := ok_may hok
            have hmx : mayB a l = true → maxF a l < z := fun _ => by rw [ok_max hok]; omega
            have HM := Lib.hid hmx
            clear HS c2 hmx
            go_wp2_with fail
            go_region_held3 (fun w' => w'.cell? ⟨wr.heap.size, 0, none⟩ = some (.int .i64 a) ∧ w'.cell? ⟨wr.heap.size, 1, none⟩ = some (.int .i64 l) ∧ w'.cell? ⟨b, off + k, none⟩ = some (.int .u64 z) ∧ Below w1.heap.size w1 w' ∧ wr.heap.size < w'.heap.size ∧ b < w'.heap.size ∧ w1.heap.size ≤ w'.heap.size)
              (first | exact keep3 (by assumption) hbw | exact keep3_0 hb hcx hbs)
              (first | (go_at_call 21; refine (put_no a l y z HM.out _).mono ?_; rintro e w2 ⟨rfl, hbw⟩))
            obtain ⟨_, _, _, hb2, _⟩ : w2.cell? ⟨wr.heap.size, 0, none⟩ = some (.int .i64 a) ∧ w2.cell? ⟨wr.heap.size, 1, none⟩ = some (.int .i64 l) ∧ w2.cell? ⟨b, off + k, none⟩ = some (.int .u64 z) ∧ Below w1.heap.size w1 w2 ∧ wr.heap.size < w2.heap.size ∧ b < w2.heap.size ∧ w1.heap.size ≤ w2.heap.size := by assumption
            go_wp2
            go_ret2
            exact join_post HT.out (hb1.trans (hb2.mono hb1.size))
        · have HT := Lib.hid (HJ.out.trans (joinGo_end (by omega)))
          have hd2 : decide (k < (fieldsOf zs).length) = false := by simpa using hlt
          go_wp2
          go_ret2
          exact join_post HT.out (hb1.trans (hb.mono hb1.size))
    · have HT := Lib.hid (show joinF zs xs = (0, 17) by unfold joinF; rw [if_neg (by rw [HC.out]; simp), if_pos (by rw [HX1.out.1]; exact c1)])
      have hd : (m != (fieldsOf zs).length) = true := by simp [bne, c1]
      have hd2 : ((m : Int) != ((fieldsOf zs).length : Int)) = true := by simp [bne]; omega
      go_wp2
      go_ret2
      exact join_post HT.out hb1
  · have hc0 : ((rowGo 0 zs).2 != 0) = true := by simp [bne, c0]
    have HT := Lib.hid (show joinF zs xs = (0, (rowGo 0 zs).2) by unfold joinF; rw [if_pos c0])
    clear c0
    go_enter Try.func28, Try.ntmps28
    go_wp2_with fail
    refine (row_fields A len cap zs hlen _ hN).mono ?_
    rintro e w1 ⟨v, rfl, hown, hb1⟩
    go_wp2
    go_ret2
    exact join_post HT.out hb1
end Go.Proofs.Ytlchbjocemegbaa
