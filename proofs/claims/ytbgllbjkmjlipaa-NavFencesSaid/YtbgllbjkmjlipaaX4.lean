/- The walk of NavFences. -/
import Derived.Test.YtbgllbjkmjlipaaW7
namespace Go.Proofs.Ytbgllbjkmjlipaa
open Go.RowKit Go.Shelf
attribute [local go_sem] fmt64

set_option maxRecDepth 100000 in
set_option maxHeartbeats 2000000 in
theorem navFences_walk (A : Option Addr) (n cap : Nat) (ns : List N3) (re im kd : Int) (w : World) (hN : Nbs w w.heap.size A n ns) : Calls Try.prog 3 #[.slice A n cap, nb re im kd] w fun e w' => e = .returned (.bool true) ∧ Below w.heap.size w w' := by
  have hv := value_any re im kd
  have hpl := plainN_any re im kd
  have hr := rightN_any re im kd
  have L0 := (LW.nil w).new 24 #[.int .i64 re, .int .i64 im, .int .i64 kd]
  generalize plR re im kd = a at *
  generalize plI re im kd = b at *
  have LL0 := Lib.hid L0
  clear L0
  by_cases h100 : 100 < n
  · have d0 : decide ((100 : Int) < (n : Int)) = true := by simp; omega
    clear hN
    go_enter Try.func3, Try.ntmps3
    go_wp2_with fail
    refine (awake_any _).mono ?_
    rintro e wz ⟨rfl, hb⟩
    have Lz := LL0.out.bel hb
    go_wp2
    go_ret
    exact ⟨rfl, Lz.below⟩
  have hn : n ≤ 100 := by omega
  have d0 : decide ((100 : Int) < (n : Int)) = false := by simp; omega
  clear h100
  have HNB : Hid (∀ k L W, LW w k L W → Nbs W W.heap.size A n ns) := Lib.hid fun k L W h => (hN.below h.below).more h.below.size
  clear hN
  go_enter Try.func3, Try.ntmps3
  go_wp2
  have LD := Lib.hid LL0.out.drew
  clear LL0
  obtain ⟨W1, hW1⟩ : ∃ x, w.alloc (.cells #[.int .i64 re, .int .i64 im, .int .i64 kd] 24) = x := ⟨_, rfl⟩
  rw [hW1] at LD ⊢
  clear hW1
  have hnb : Hid (∀ W, Below W1.drew.heap.size W1.drew W → Nbs W W.heap.size A n ns) := Lib.hid fun W hb => HNB.out _ _ _ (LD.out.bel hb)
  have sv : Hid (∀ W, Below W1.drew.heap.size W1.drew W → Below W1.drew.heap.size W1.drew W ∧ W.cell? ⟨w.heap.size, 0, none⟩ = some (.int .i64 re) ∧ W.cell? ⟨w.heap.size, 1, none⟩ = some (.int .i64 im) ∧ W.cell? ⟨w.heap.size, 2, none⟩ = some (.int .i64 kd)) := Lib.hid fun W hb => by
    have LL := LD.out.bel hb
    exact ⟨hb, LL.cell (i := 0) (v := .int .i64 re) (List.mem_cons_self ..) rfl, LL.cell (i := 1) (v := .int .i64 im) (List.mem_cons_self ..) rfl, LL.cell (i := 2) (v := .int .i64 kd) (List.mem_cons_self ..) rfl⟩
  have BK0 := Below.refl W1.drew.heap.size W1.drew
  go_region_held3 (fun W => Below W1.drew.heap.size W1.drew W ∧ W.cell? ⟨w.heap.size, 0, none⟩ = some (.int .i64 re) ∧ W.cell? ⟨w.heap.size, 1, none⟩ = some (.int .i64 im) ∧ W.cell? ⟨w.heap.size, 2, none⟩ = some (.int .i64 kd))
    (first | (with_reducible exact sv.out _ BK0) | (with_reducible assumption) | (with_reducible exact sv.out _ (bt (And.left (by assumption)) hbw)))
    (first | (go_at_call 13; refine (points_any _ _ _ ns hn _ (hnb.out _ (And.left (by assumption)))).mono ?_; rintro e w_ ⟨v, xs, rfl, hxl, hNA, hRow, hbw⟩) | (go_at_call 14; refine (hv _).mono ?_; rintro e w_ ⟨x4, y4, rfl, hN4, hbw⟩; have hRow4 := ownsRow_bel hRow hbw) | (go_at_call 12; refine (fence_gen hn hxl hNA hRow4 hN4).mono ?_; rintro e w_ ⟨rfl, hbw⟩))
  rename_i hK
  have L5 := Lib.hid (LD.out.bel hK.1)
  clear hK LD sv BK0 hnb hv
  obtain ⟨al, hal⟩ : ∃ x, rAll ns n = x := ⟨_, rfl⟩
  obtain ⟨F, hF⟩ : ∃ x, fenR ns n a b = x := ⟨_, rfl⟩
  have hpn := plains_any A n cap ns hn _ (HNB.out _ _ _ L5.out)
  go_wp2_with fail
  refine hpn.mono ?_
  rintro e w6 ⟨v6, rfl, hR6, hb⟩
  have L6 := Lib.hid (L5.out.bel hb)
  have HR6 := Lib.hid hR6
  clear hpn L5 hb hR6
  by_cases h3 : n < 3
  · have d3 : decide ((n : Int) < 3) = true := by simp; omega
    have e1 : feE n (rAll ns n && rightB a b) = 1 := if_pos h3
    have e2 : feR n (rAll ns n && rightB a b) (fenR ns n a b) = false := if_pos h3
    rw [e1, e2]
    clear e1 e2
    go_wp2_with fail
    refine (awake_any _).mono ?_
    rintro e wz ⟨rfl, hb⟩
    have Lwz := Lib.hid (L6.out.bel hb)
    clear hb L6 
    go_wp2
    go_ret
    exact ⟨rfl, Lwz.out.below⟩
  have d3 : decide ((n : Int) < 3) = false := by simp; omega
  rw [hal, hF]
  cases al with
  | false =>
    rw [Bool.false_and, show feE n false = 10 by unfold feE; rw [if_neg h3]; rfl, show feR n false F = false by unfold feR; rw [if_neg h3]; rfl]
    go_wp2_with fail
    refine (awake_any _).mono ?_
    rintro e wz ⟨rfl, hb⟩
    have Lwz := Lib.hid (L6.out.bel hb)
    clear hb L6 
    go_wp2
    go_ret
    exact ⟨rfl, Lwz.out.below⟩
  | true =>
    rw [Bool.true_and]
    have f0 := L6.out.cell (i := 0) (v := .int .i64 re) (List.mem_cons_self ..) rfl
    have f1 := L6.out.cell (i := 1) (v := .int .i64 im) (List.mem_cons_self ..) rfl
    have f2 := L6.out.cell (i := 2) (v := .int .i64 kd) (List.mem_cons_self ..) rfl
    go_wp2_with fail
    refine (hr _).mono ?_
    rintro e w7 ⟨rfl, hb⟩
    have Lw7 := Lib.hid (L6.out.bel hb)
    have HR7 := Lib.hid (ownsRow_bel HR6.out hb)
    clear hb L6 f0 f1 f2
    clear HR6 hr
    cases hrb : rightB a b with
    | false =>
      rw [show feE n false = 10 by unfold feE; rw [if_neg h3]; rfl, show feR n false F = false by unfold feR; rw [if_neg h3]; rfl]
      go_wp2_with fail
      refine (awake_any _).mono ?_
      rintro e wz ⟨rfl, hb⟩
      have Lwz := Lib.hid (Lw7.out.bel hb)
      clear hb Lw7 
      go_wp2
      go_ret
      exact ⟨rfl, Lwz.out.below⟩
    | true =>
      rw [show feE n true = 0 by unfold feE; rw [if_neg h3]; rfl, show feR n true F = F by unfold feR; rw [if_neg h3]; rfl]
      have f0 := Lw7.out.cell (i := 0) (v := .int .i64 re) (List.mem_cons_self ..) rfl
      have f1 := Lw7.out.cell (i := 1) (v := .int .i64 im) (List.mem_cons_self ..) rfl
      have f2 := Lw7.out.cell (i := 2) (v := .int .i64 kd) (List.mem_cons_self ..) rfl
      go_wp2_with fail
      refine (hpl _).mono ?_
      rintro e w8 ⟨rfl, hb⟩
      have Lw8 := Lib.hid (Lw7.out.bel hb)
      have hR8 := ownsRow_bel HR7.out hb
      clear hb Lw7 f0 f1 f2
      have hrf := rfence_gen (a := a) (b := b) (by omega) hn hR8 hal hrb
      rw [hF] at hrf
      clear HR7 hpl hR8
      go_wp2_with fail
      refine hrf.mono ?_
      rintro e w9 ⟨rfl, hb⟩
      have Lw9 := Lib.hid (Lw8.out.bel hb)
      clear hb Lw8 hrf
      have hbf : (F == F) = true := by simp
      go_wp2_with fail
      refine (awake_any _).mono ?_
      rintro e wz ⟨rfl, hb⟩
      have Lwz := Lib.hid (Lw9.out.bel hb)
      clear hb Lw9 
      go_wp2
      go_ret
      exact ⟨rfl, Lwz.out.below⟩
end Go.Proofs.Ytbgllbjkmjlipaa
