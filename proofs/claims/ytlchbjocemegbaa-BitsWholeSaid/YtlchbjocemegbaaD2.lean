/- The walk of BitsApart, joined. -/
import Derived.Test.YtlchbjocemegbaaD
namespace Go.Proofs.Ytlchbjocemegbaa
open Go.RowKit Go.Shelf

theorem bitsApart_walk (a l b m : Int) (x s t : Nat) (hx : x < 18446744073709551616) (w : World) :
    Calls Try.prog 5 #[.agg #[.int .i64 a, .int .i64 l, .int .i64 b, .int .i64 m], .int .u64 x, .agg #[.int .u64 s, .int .u64 t]] w fun e w' => e = .returned (.bool true) ∧ Below w.heap.size w w' := by
  by_cases hp : mayB a l = true ∧ s ≤ maxF a l
  · by_cases hq : mayB b m = true ∧ t ≤ maxF b m
    · obtain ⟨hma, hsa⟩ := hp
      obtain ⟨hmb, htb⟩ := hq
      obtain ⟨A, L, rfl, rfl, h1, h2, h3, h4⟩ := may_of hma
      obtain ⟨B, M, rfl, rfl, g1, g2, g3, g4⟩ := may_of hmb
      have eA : maxF A L = maxW L := by simp [maxF, hma]
      have eB : maxF B M = maxW M := by simp [maxF, hmb]
      have pA : ∀ x : Nat, x < 18446744073709551616 → Says 21 #[fld A L, .int .u64 x, .int .u64 s] (.tuple #[.int .u64 (setW A L x s), .int .i64 0]) := fun x hx w => by
        have h := put_yes A L x s hx hma hsa w
        rw [show setF A L x s = setW A L x s by simp [setF]] at h; exact h
      have pB : ∀ x : Nat, x < 18446744073709551616 → Says 21 #[fld B M, .int .u64 x, .int .u64 t] (.tuple #[.int .u64 (setW B M x t), .int .i64 0]) := fun x hx w => by
        have h := put_yes B M x t hx hmb htb w
        rw [show setF B M x t = setW B M x t by simp [setF]] at h; exact h
      rw [eA] at hsa
      rw [eB] at htb
      have apart : A + L ≤ B ∨ B + M ≤ A → setW B M (setW A L x s) t = setW A L (setW B M x t) s ∧ getF A L (setW B M (setW A L x s) t) = s ∧ getF B M (setW B M (setW A L x s) t) = t := fun h => by
        have e := set_two (w := x) (s := s) (t := t) h h4 g4
        refine ⟨e, ?_, ?_⟩
        · rw [e]; simp only [getF, hma, if_pos, Int.toNat_natCast]; exact get_set h4 hsa
        · simp only [getF, hmb, if_pos, Int.toNat_natCast]; exact get_set g4 htb
      by_cases c : A < B
      · by_cases c2 : B < A + L
        · exact bitsApart_ov1 A L B M x s t _ _ h1 h3 g1 g3 ⟨c, c2⟩ (pA x hx) (pB x hx) w
        · obtain ⟨e1, e2, e3⟩ := apart (by omega)
          exact bitsApart_ap1 A L B M x s t _ _ _ h1 h3 g1 g3 ⟨c, by omega⟩ (pA x hx) (pB x hx) (pB _ (setW_lt _ _ _ _)) (e1 ▸ pA _ (setW_lt _ _ _ _)) (setW_lt _ _ _ _) e2 e3 w
      · by_cases c2 : A < B + M
        · exact bitsApart_ov2 A L B M x s t _ _ h1 h3 g1 g3 ⟨by omega, c2⟩ (pA x hx) (pB x hx) w
        · obtain ⟨e1, e2, e3⟩ := apart (by omega)
          exact bitsApart_ap2 A L B M x s t _ _ _ h1 h3 g1 g3 ⟨by omega, by omega⟩ (pA x hx) (pB x hx) (pB _ (setW_lt _ _ _ _)) (e1 ▸ pA _ (setW_lt _ _ _ _)) (setW_lt _ _ _ _) e2 e3 w
    · have h2 := put_any b m x t hx
      rw [putF, if_neg hq] at h2
      have h1 := put_any a l x s hx
      rw [putF, if_pos hp] at h1
      exact bitsApart_bad2 a l b m x s t _ 0 0 10 (by exact h1) (by exact h2) (by decide) (by decide) w
  · have h1 := put_any a l x s hx
    rw [putF, if_neg hp] at h1
    exact bitsApart_bad1 a l b m x s t 0 _ 10 _ (by exact h1) (by exact put_any b m x t hx) (by decide) w
end Go.Proofs.Ytlchbjocemegbaa
