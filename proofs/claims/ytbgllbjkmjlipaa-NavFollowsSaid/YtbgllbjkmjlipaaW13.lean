/- Contract: the document's Follow. -/
import Derived.Test.YtbgllbjkmjlipaaW12
namespace Go.Proofs.Ytbgllbjkmjlipaa
open Go.RowKit Go.Shelf
attribute [local go_sem] fmt64

/-- The first from k on that is not near, or the last. -/
def folF (F : Nat → Bool) : Nat → Nat → Nat
  | 0, k => k
  | m + 1, k => if F k = true then folF F m (k + 1) else k
theorem folF_yes {F : Nat → Bool} {n k : Nat} (hk : k + 1 < n) (h : F k = true) : folF F (n - 1 - k) k = folF F (n - 1 - (k + 1)) (k + 1) := by
  obtain ⟨m, hm⟩ : ∃ m, n - 1 - k = m + 1 := ⟨n - 1 - k - 1, by omega⟩
  rw [hm, show n - 1 - (k + 1) = m by omega, folF, if_pos h]
theorem folF_no {F : Nat → Bool} {n k : Nat} (h : F k = false) : folF F (n - 1 - k) k = k := by
  cases c : n - 1 - k with
  | zero => rfl
  | succ m => rw [folF, h]; rfl
theorem folF_last {F : Nat → Bool} {n k : Nat} (h : ¬ k + 1 < n) : folF F (n - 1 - k) k = k := by
  rw [show n - 1 - k = 0 by omega]; rfl
theorem folF_lt {F : Nat → Bool} (m : Nat) : ∀ k, folF F m k ≤ k + m := by
  induction m with
  | zero => exact fun k => Nat.le_refl _
  | succ m ih =>
    intro k
    rw [folF]
    split
    · have := ih (k + 1); omega
    · omega
theorem folF_stays (F : Nat → Bool) (n : Nat) : ∀ m k, n - 1 - k = m → folF F (n - 1 - folF F m k) (folF F m k) = folF F m k := by
  intro m
  induction m with
  | zero => intro k hk; rw [folF, hk]; rfl
  | succ m ih =>
    intro k hk
    rw [folF]
    split
    · exact ih (k + 1) (by omega)
    · rename_i h
      rw [hk, folF, if_neg h]
/-- Is a point no further than so much? -/
def nearF (f : Nat → Int × Int) (near a b : Int) (k : Nat) : Bool := decide (distF (f k).1 (f k).2 a b ≤ near)

set_option maxRecDepth 100000 in
set_option maxHeartbeats 4000000 in
theorem rfollow_any (A : Option Addr) (n cap : Nat) (f : Nat → Int × Int) (hn : n ≤ 100) (k0 : Nat) (hk0 : k0 < n) (near a b : Int) (ha : a.natAbs < 1048576) (hb : b.natAbs < 1048576) (hf : ∀ k, k < n → (f k).1.natAbs < 1048576 ∧ (f k).2.natAbs < 1048576) (w : World) (hN : Zbs w w.heap.size A n f) :
    Calls Try.prog 39 #[.slice A n cap, .int .i64 k0, .int .i64 near, zz a b] w fun e w' => e = .returned (.int .i64 (folF (nearF f near a b) (n - 1 - k0) k0)) ∧ Below w.heap.size w w' := by
  have HN := Lib.hid hN
  have HF := Lib.hid hf
  clear hN hf
  have L0 := Lib.hid ((LW.nil w).new 39 #[.int .i64 a, .int .i64 b])
  obtain ⟨K, hK⟩ : ∃ K, folF (nearF f near a b) (n - 1 - k0) k0 = K := ⟨_, rfl⟩
  rw [hK]
  go_enter Try.func39, Try.ntmps39
  go_wp2
  go_loopw [1] (fun i wr => ∃ (k : Nat), k < n ∧ i = .int .i64 k ∧ Hid (folF (nearF f near a b) (n - 1 - k) k = K) ∧ Hid (LW w 0 [(w.heap.size, 39, #[.int .i64 a, .int .i64 b])] wr)) (fun i _ => n - (intOf i).toNat)
  case atStart => exact ⟨k0, hk0, rfl, Lib.hid hK, L0⟩
  case round =>
    clear L0 hK
    obtain ⟨k, hk, rfl, HK, LR⟩ := hrel
    have wk : IntKind.i64.wrap ((k : Int) + 1) = (k : Int) + 1 := wr6 (by omega)
    by_cases hlt : k + 1 < n
    · obtain ⟨g, off, rfl, hgl, h0, h1⟩ := HN.out k hk
      have d0 : decide ((k : Int) + 1 < (n : Int)) = true := by simp; omega
      have bk := HF.out k hk
      have hfa := rfar_any (f k).1 (f k).2 a b bk.1 bk.2 ha hb
      have hnf : nearF f near a b k = decide (distF (f k).1 (f k).2 a b ≤ near) := rfl
      have c0 := (LR.out.below.cell (p := ⟨g, off + k * 2, none⟩) hgl).trans h0
      have c1 := (LR.out.below.cell (p := ⟨g, off + k * 2 + 1, none⟩) hgl).trans h1
      have e0 := LR.out.cell (i := 0) (v := .int .i64 a) (List.mem_cons_self ..) rfl
      have e1 := LR.out.cell (i := 1) (v := .int .i64 b) (List.mem_cons_self ..) rfl
      have i5 : (0 : Int) ≤ (k : Int) := by omega
      have i6 : (k : Int) < (n : Int) := by omega
      generalize distF (f k).1 (f k).2 a b = D at *
      have HC : Hid (∀ W, Below wr.heap.size wr W → Below wr.heap.size wr W ∧ W.cell? ⟨g, off + k * 2, none⟩ = some (.int .i64 (f k).1) ∧ W.cell? ⟨g, off + k * 2 + 1, none⟩ = some (.int .i64 (f k).2) ∧ W.cell? ⟨w.heap.size, 0, none⟩ = some (.int .i64 a) ∧ W.cell? ⟨w.heap.size, 1, none⟩ = some (.int .i64 b)) := Lib.hid fun W hW => by
        have LL := LR.out.bel hW
        exact ⟨hW, (LL.below.cell (p := ⟨g, off + k * 2, none⟩) hgl).trans h0, (LL.below.cell (p := ⟨g, off + k * 2 + 1, none⟩) hgl).trans h1, LL.cell (i := 0) (v := .int .i64 a) (List.mem_cons_self ..) rfl, LL.cell (i := 1) (v := .int .i64 b) (List.mem_cons_self ..) rfl⟩
      have BK0 := (Below.refl wr.heap.size wr).drew
      generalize (f k).1 = x at *
      generalize (f k).2 = y at *
      have HH := Lib.hid hnf
      clear h0 h1 bk hnf c0 c1 e0 e1
      obtain ⟨q, hq⟩ : ∃ q, decide (D ≤ near) = q := ⟨_, rfl⟩
      have HQ := Lib.hid hq
      go_wp2_with fail
      cases q with
      | false =>
        go_region_held3 (fun W => Below wr.heap.size wr W ∧ W.cell? ⟨g, off + k * 2, none⟩ = some (.int .i64 x) ∧ W.cell? ⟨g, off + k * 2 + 1, none⟩ = some (.int .i64 y) ∧ W.cell? ⟨w.heap.size, 0, none⟩ = some (.int .i64 a) ∧ W.cell? ⟨w.heap.size, 1, none⟩ = some (.int .i64 b))
          (first | (with_reducible exact HC.out _ BK0) | (with_reducible assumption) | (with_reducible exact HC.out _ (bt (And.left (by assumption)) hbw)))
          (first | (go_at_call 60; refine (hfa _).mono ?_; rintro e w_ ⟨rfl, hbw⟩))
        rename_i hK
        have LZ := Lib.hid (LR.out.bel hK.1)
        clear hK HC BK0
        go_wp2
        go_ret
        have e : K = k := by rw [← HK.out]; exact folF_no (HH.out.trans HQ.out)
        exact ⟨by rw [e]; rfl, LZ.out.below⟩
      | true =>
        go_region_held3 (fun W => Below wr.heap.size wr W ∧ W.cell? ⟨g, off + k * 2, none⟩ = some (.int .i64 x) ∧ W.cell? ⟨g, off + k * 2 + 1, none⟩ = some (.int .i64 y) ∧ W.cell? ⟨w.heap.size, 0, none⟩ = some (.int .i64 a) ∧ W.cell? ⟨w.heap.size, 1, none⟩ = some (.int .i64 b))
          (first | (with_reducible exact HC.out _ BK0) | (with_reducible assumption) | (with_reducible exact HC.out _ (bt (And.left (by assumption)) hbw)))
          (first | (go_at_call 60; refine (hfa _).mono ?_; rintro e w_ ⟨rfl, hbw⟩))
        rename_i hK
        have LZ := Lib.hid (LR.out.bel hK.1)
        clear hK HC BK0
        go_wp2
        go_roundw
        case rel => exact ⟨k + 1, hlt, by go_num, Lib.hid (by rw [← folF_yes hlt (HH.out.trans HQ.out)]; exact HK.out), LZ⟩
        case measure => simp [intOf]; omega
    · have d0 : decide ((k : Int) + 1 < (n : Int)) = false := by simp; omega
      go_wp2_with fail
      go_quiet (fail)
      go_wp2
      go_ret
      have e : K = k := by rw [← HK.out]; exact folF_last hlt
      exact ⟨by rw [e]; rfl, (LR.out.drewN _).below⟩
end Go.Proofs.Ytbgllbjkmjlipaa
