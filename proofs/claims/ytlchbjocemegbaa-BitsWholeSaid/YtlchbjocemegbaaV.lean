/- Rows joined and split: no program in sight. -/
import Derived.Test.YtlchbjocemegbaaL
import Derived.Test.YtlchbjocemegbaaZ
namespace Go.Proofs.Ytlchbjocemegbaa

/-- Fields side by side, from a bit to a bit. -/
def Chain : Nat → List (Nat × Nat) → Nat → Prop
  | at_, [], e => at_ = e
  | at_, f :: r, e => f.1 = at_ ∧ 1 ≤ f.2 ∧ f.2 ≤ 64 ∧ Chain (at_ + f.2) r e
theorem Chain.le {at_ e : Nat} : ∀ {fs : List (Nat × Nat)}, Chain at_ fs e → at_ ≤ e
  | [], h => Nat.le_of_eq h
  | _ :: _, h => by have := Chain.le h.2.2.2; omega
theorem rowGo_chain (at_ : Nat) (zs : List Int) (h : (rowGo at_ zs).2 = 0) (h64 : at_ ≤ 64) :
    ∃ e, Chain at_ (rowGo at_ zs).1 e ∧ e ≤ 64 ∧ (at_ : Int) + zs.sum = e ∧ ∀ z ∈ zs, 1 ≤ z ∧ z ≤ 64 := by
  induction zs generalizing at_ with
  | nil => exact ⟨at_, by simp [rowGo, Chain], h64, by simp, by simp⟩
  | cons n r ih =>
    rw [rowGo] at h ⊢
    split at h
    · simp at h
    · rename_i c1
      split at h
      · simp at h
      · rename_i c2
        obtain ⟨e, hc, he, hs, hz⟩ := ih (at_ + n.toNat) h (by omega)
        rw [if_neg c1, if_neg c2]
        refine ⟨e, ⟨rfl, by show 1 ≤ n.toNat; omega, by show n.toNat ≤ 64; omega, hc⟩, he, by rw [List.sum_cons]; omega, fun z hz' => ?_⟩
        rcases List.mem_cons.1 hz' with rfl | hz'
        · omega
        · exact hz z hz'
/-- What is joined: each number in its field, no bit behind turned. -/
theorem joinGo_split {fs : List (Nat × Nat)} {at_ e : Nat} (hc : Chain at_ fs e) (he : e ≤ 64) : ∀ {xs : List Nat} {w r : Nat}, xs.length = fs.length → w < 18446744073709551616 → joinGo fs xs w = (r, 0) →
    r < 18446744073709551616 ∧ getsOf fs r = xs ∧ ∀ i, i < at_ → r.testBit i = w.testBit i := by
  induction fs generalizing at_ with
  | nil =>
    intro xs w r hl hw hj
    cases xs with
    | cons x r => simp at hl
    | nil =>
      simp only [joinGo, Prod.mk.injEq, and_true] at hj
      subst hj
      exact ⟨hw, rfl, fun _ _ => rfl⟩
  | cons f fs ih =>
    intro xs w r hl hw hj
    obtain ⟨a, l⟩ := f
    obtain ⟨h1, h2, h3, h4⟩ := hc
    dsimp only at h1 h2 h3 h4
    subst h1
    have hle := h4.le
    cases xs with
    | nil => simp at hl
    | cons x xs =>
      rw [joinGo] at hj
      split at hj
      · rename_i hx
        dsimp only at hx hj
        obtain ⟨hr, hg, hb⟩ := ih h4 (by simpa using hl) (setW_lt _ _ _ _) hj
        refine ⟨hr, ?_, fun i hi => ?_⟩
        · show getW a l r :: getsOf fs r = x :: xs
          rw [hg]
          congr 1
          rw [← get_set (a := a) (w := w) (by omega) hx]
          apply eq_of_bits (getW_lt _ _ _) (getW_lt _ _ _)
          intro i hi
          rw [getW_bit _ _ _ _ hi, getW_bit _ _ _ _ hi]
          by_cases c : i < l
          · rw [hb (a + i) (by omega)]
          · simp [c]
        · rw [hb i (by omega), setW_bit _ _ _ _ _ (by omega), if_neg (by omega)]
      · simp at hj
/-- What is split, joined: the word's own bits in the row, the others as they were. -/
theorem joinGo_gets {fs : List (Nat × Nat)} {at_ e : Nat} (hc : Chain at_ fs e) (x : Nat) : ∀ {w : Nat}, w < 18446744073709551616 →
    ∃ r, joinGo fs (getsOf fs x) w = (r, 0) ∧ r < 18446744073709551616 ∧ ∀ i, i < 64 → r.testBit i = if at_ ≤ i ∧ i < e then x.testBit i else w.testBit i := by
  induction fs generalizing at_ with
  | nil =>
    intro w hw
    refine ⟨w, rfl, hw, fun i hi => ?_⟩
    have : at_ = e := hc
    rw [if_neg (by omega)]
  | cons f fs ih =>
    intro w hw
    obtain ⟨a, l⟩ := f
    obtain ⟨h1, h2, h3, h4⟩ := hc
    dsimp only at h1 h2 h3 h4
    subst h1
    have hle := h4.le
    obtain ⟨r, hj, hr, hb⟩ := ih h4 (w := setW a l w (getW a l x)) (setW_lt _ _ _ _)
    refine ⟨r, ?_, hr, fun i hi => ?_⟩
    · show joinGo ((a, l) :: fs) (getW a l x :: getsOf fs x) w = (r, 0)
      rw [joinGo, if_pos (get_le _ _ _ h3)]
      exact hj
    · rw [hb i hi]
      by_cases c : a + l ≤ i ∧ i < e
      · rw [if_pos c, if_pos (by omega)]
      · rw [if_neg c, setW_bit _ _ _ _ _ hi]
        by_cases c2 : a ≤ i ∧ i < a + l
        · rw [if_pos c2, if_pos (by omega), getW_bit _ _ _ _ (by omega), show a + (i - a) = i by omega]
          have : i - a < l := by omega
          simp [this]
        · rw [if_neg c2, if_neg (by omega)]
theorem whole_split {zs : List Int} {xs : List Nat} {r : Nat} (h : joinF zs xs = (r, 0)) : r < 18446744073709551616 ∧ (rowGo 0 zs).2 = 0 ∧ splitF zs r = xs := by
  unfold joinF at h
  by_cases c : (rowGo 0 zs).2 = 0
  · rw [if_neg (by simp [c])] at h
    by_cases c2 : xs.length = (fieldsOf zs).length
    · rw [if_neg (by simp [c2])] at h
      obtain ⟨e, hc, he, _⟩ := rowGo_chain 0 zs c (by omega)
      have hf : fieldsOf zs = (rowGo 0 zs).1 := if_pos c
      rw [← hf] at hc
      obtain ⟨h1, h2, _⟩ := joinGo_split hc he c2 (by omega) h
      exact ⟨h1, c, h2⟩
    · rw [if_pos (by simpa using c2)] at h; simp at h
  · rw [if_pos (by simpa using c)] at h
    simp at h; exact absurd h.2 c
theorem whole_join {zs : List Int} (x : Nat) (hx : x < 18446744073709551616) (h : (rowGo 0 zs).2 = 0) :
    ∃ r e : Nat, joinF zs (splitF zs x) = (r, 0) ∧ zs.sum = e ∧ e ≤ 64 ∧ (∀ z ∈ zs, 1 ≤ z ∧ z ≤ 64) ∧ (e < 64 → x &&& (2 ^ e - 1) = r) ∧ (¬ e < 64 → x = r) := by
  obtain ⟨e, hc, he, hs, hz⟩ := rowGo_chain 0 zs h (by omega)
  have hf : fieldsOf zs = (rowGo 0 zs).1 := if_pos h
  rw [← hf] at hc
  obtain ⟨r, hj, hr, hb⟩ := joinGo_gets hc x (w := 0) (by omega)
  refine ⟨r, e, ?_, by omega, he, hz, fun h64 => ?_, fun h64 => ?_⟩
  · unfold joinF
    rw [if_neg (by simp [h]), if_neg (by simp [splitF, getsOf])]
    exact hj
  · apply eq_of_bits (Nat.lt_of_le_of_lt Nat.and_le_left hx) hr
    intro i hi
    rw [Nat.testBit_and, Nat.testBit_two_pow_sub_one, hb i hi]
    by_cases c : i < e <;> simp [c]
  · apply eq_of_bits hx hr
    intro i hi
    rw [hb i hi, if_pos (by omega)]
end Go.Proofs.Ytlchbjocemegbaa
