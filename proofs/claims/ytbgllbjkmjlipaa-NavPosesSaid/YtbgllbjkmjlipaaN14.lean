/- Both Decodes of the same words, in the law's words. -/
import Derived.Test.YtbgllbjkmjlipaaN13
namespace Go.Proofs.Ytbgllbjkmjlipaa
open Go.RowKit

/-- Words of an argument. -/
def Wds (W : World) (B : Nat) (A : Option Addr) (n : Nat) (x : Nat → Nat) : Prop :=
  ∀ k, k < n → x k < 18446744073709551616 ∧ ∃ b off, A = some ⟨b, off, none⟩ ∧ b < B ∧ W.cell? ⟨b, off + k, none⟩ = some (.int .u64 (x k : Nat))
theorem Wds.at3 {W w : World} {A : Option Addr} {x : Nat → Nat} (h : Wds w w.heap.size A 3 x) (hb : Below w.heap.size w W) : ∃ b off, A = some ⟨b, off, none⟩ ∧ b < W.heap.size ∧ W.cell? ⟨b, off, none⟩ = some (.int .u64 (x 0 : Nat)) ∧ W.cell? ⟨b, off + 1, none⟩ = some (.int .u64 (x 1 : Nat)) ∧ W.cell? ⟨b, off + 2, none⟩ = some (.int .u64 (x 2 : Nat)) := by
  obtain ⟨_, b, off, rfl, hl, c0⟩ := h 0 (by omega)
  obtain ⟨_, _, _, e1, _, c1⟩ := h 1 (by omega)
  obtain ⟨_, _, _, e2, _, c2⟩ := h 2 (by omega)
  cases e1
  cases e2
  rw [Nat.add_zero] at c0
  exact ⟨b, off, rfl, Nat.lt_of_lt_of_le hl hb.size, (hb.cell (p := ⟨b, off, none⟩) hl).trans c0, (hb.cell (p := ⟨b, off + 1, none⟩) hl).trans c1, (hb.cell (p := ⟨b, off + 2, none⟩) hl).trans c2⟩
theorem both_decode {w : World} {A : Option Addr} {n cap : Nat} {x : Nat → Nat} (hn : n ≤ 10) (hN : Wds w w.heap.size A n x) :
    ∃ R I S J N M c : Int, (R.natAbs < 1048576 ∧ I.natAbs < 1048576) ∧ (S.natAbs < 1048576 ∧ J.natAbs < 1048576) ∧ (N.natAbs < 1048576 ∧ M.natAbs < 1048576) ∧
      (∀ W, Below w.heap.size w W → Calls Try.prog 42 #[.slice A n cap] W fun e w' => e = .returned (.tuple #[ps (wd false R) (wd false I) (wd false S) (wd false J) (wd false N) (wd false M), .int .i64 c]) ∧ Below W.heap.size W w') ∧
      (∀ W, Below w.heap.size w W → Calls Try.prog 45 #[.slice A n cap] W fun e w' => e = .returned (.tuple #[pz R I S J N M, .int .i64 c]) ∧ Below W.heap.size W w') := by
  by_cases h3 : n = 3
  · subst h3
    have h0 := (hN 0 (by omega)).1
    have h1 := (hN 1 (by omega)).1
    have h2 := (hN 2 (by omega)).1
    have D1 : ∀ W, Below w.heap.size w W → _ := fun W hW => (hN.at3 hW).elim fun b h => h.elim fun off h => ndecode_any A cap (x 0) (x 1) (x 2) h0 h1 h2 b off h.1 W h.2.1 h.2.2.1 h.2.2.2.1 h.2.2.2.2
    have D2 : ∀ W, Below w.heap.size w W → _ := fun W hW => (hN.at3 hW).elim fun b h => h.elim fun off h => rdecode_any A cap (x 0) (x 1) (x 2) h0 h1 h2 b off h.1 W h.2.1 h.2.2.1 h.2.2.2.1 h.2.2.2.2
    generalize lo32 (x 0) = R at *
    generalize hi32 (x 0) = I at *
    generalize lo32 (x 1) = S at *
    generalize hi32 (x 1) = J at *
    generalize lo32 (x 2) = N at *
    generalize hi32 (x 2) = M at *
    by_cases hz : ckF R I S J N M = 0
    · simp only [if_pos hz] at D1 D2
      obtain ⟨g1, g2, g3⟩ := ck_zero hz
      exact ⟨R, I, S, J, N, M, 0, right_bd g1, right_bd g2, right_bd (nose_bd g3), D1, D2⟩
    · simp only [if_neg hz] at D1 D2
      exact ⟨0, 0, 0, 0, 0, 0, 11, by decide, by decide, by decide, by rw [lit0]; exact D1, D2⟩
  · exact ⟨0, 0, 0, 0, 0, 0, 17, by decide, by decide, by decide, by rw [lit0]; exact fun W _ => ndecode_len A n cap (by omega) h3 W, fun W _ => rdecode_len A n cap (by omega) h3 W⟩
/-- What is written is read. -/
theorem decode_own {W : World} {B g : Nat} {R I S J N M : Int} (hR : R.natAbs < 1048576 ∧ I.natAbs < 1048576) (hS : S.natAbs < 1048576 ∧ J.natAbs < 1048576) (hM : N.natAbs < 1048576 ∧ M.natAbs < 1048576) (hz : ckF R I S J N M = 0)
    (ho : W.ownsRow B 119 1 (.slice (some ⟨g, 0, none⟩) 3 3) 3 (u3 fun k => wrdF (f3 R I S J N M k).1 (f3 R I S J N M k).2)) :
    Calls Try.prog 42 #[.slice (some ⟨g, 0, none⟩) 3 3] W fun e w' => e = .returned (.tuple #[ps (wd false R) (wd false I) (wd false S) (wd false J) (wd false N) (wd false M), .int .i64 0]) ∧ Below W.heap.size W w' := by
  have c0 : W.cell? ⟨g, 0, none⟩ = some (.int .u64 (wrdF R I : Nat)) := u3_at ho (k := 0) (by omega)
  have c1 : W.cell? ⟨g, 1, none⟩ = some (.int .u64 (wrdF S J : Nat)) := u3_at ho (k := 1) (by omega)
  have c2 : W.cell? ⟨g, 2, none⟩ = some (.int .u64 (wrdF N M : Nat)) := u3_at ho (k := 2) (by omega)
  have h := ndecode_any (some ⟨g, 0, none⟩) 3 (wrdF R I) (wrdF S J) (wrdF N M) (wrdF_lt hR.1 hR.2) (wrdF_lt hS.1 hS.2) (wrdF_lt hM.1 hM.2) g 0 rfl W (World.block_lt_of_cell? W _ c0) c0 c1 c2
  have e1 : lo32 (wrdF R I) = R := by unfold lo32; exact wrd_lo hR.1
  have e2 : hi32 (wrdF R I) = I := by unfold hi32; exact wrd_hi hR.1 hR.2
  have e3 : lo32 (wrdF S J) = S := by unfold lo32; exact wrd_lo hS.1
  have e4 : hi32 (wrdF S J) = J := by unfold hi32; exact wrd_hi hS.1 hS.2
  have e5 : lo32 (wrdF N M) = N := by unfold lo32; exact wrd_lo hM.1
  have e6 : hi32 (wrdF N M) = M := by unfold hi32; exact wrd_hi hM.1 hM.2
  rw [e1, e2, e3, e4, e5, e6, if_pos hz] at h
  exact h
end Go.Proofs.Ytbgllbjkmjlipaa
