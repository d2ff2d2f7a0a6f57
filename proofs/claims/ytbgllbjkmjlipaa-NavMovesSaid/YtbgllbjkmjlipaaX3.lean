/- The walk of NavMoves. -/
import Derived.Test.YtbgllbjkmjlipaaW2
namespace Go.Proofs.Ytbgllbjkmjlipaa
open Go.RowKit
attribute [local go_sem] fmt64
attribute [local go_sem ↓] st45 st48
attribute [local go_sem] st45_run st48_run World.setRow_alloc_new rr45 rr48

theorem rr48s (W : World) (o : Obj) (a b c d e f : Value) : RR (W.heap.size + 1) 6 48 ((W.alloc o).alloc (.cells #[a, b, c, d, e, f] 48)) := by
  have := rr48 (W.alloc o) a b c d e f
  rwa [World.size_alloc] at this
theorem setRow_alloc2 (W : World) (o : Obj) (c c' : Array Value) (t : TypeId) : ((W.alloc o).alloc (.cells c t)).setRow (W.heap.size + 1) c' = (W.alloc o).alloc (.cells c' t) := by
  have := World.setRow_alloc_new (W.alloc o) c c' t
  rwa [World.size_alloc] at this
attribute [local go_sem] rr48s setRow_alloc2
theorem wr3 {n : Int} (h : -9007199254740992 < n ∧ n < 9007199254740992) : IntKind.i64.wrap n = n := IntWalk.i64_in _ (by omega)
theorem part_bd0 {a b k : Int} (ha : a.natAbs < 1048576) (hb : b.natAbs < 1048576) (hk : 0 ≤ k ∧ k ≤ 16) : (partF a b k).natAbs < 1048576 := by
  unfold partF
  obtain ⟨j, rfl⟩ : ∃ j : Nat, k = (j : Int) := ⟨k.toNat, by omega⟩
  have hj : j ≤ 16 := by omega
  rcases Int.le_total 0 (b - a) with h | h
  · have h1 : 0 ≤ (b - a) * (j : Int) := Int.mul_nonneg h (by omega)
    have h2 : (b - a) * (j : Int) ≤ (b - a) * 16 := Int.mul_le_mul_of_nonneg_left (by omega) h
    have h3 := Int.tdiv_eq_ediv_of_nonneg (b := 16) h1
    rw [h3]
    generalize (b - a) * (j : Int) = d at *
    omega
  · have h1 : 0 ≤ (a - b) * (j : Int) := Int.mul_nonneg (by omega) (by omega)
    have h2 : (a - b) * (j : Int) ≤ (a - b) * 16 := Int.mul_le_mul_of_nonneg_left (by omega) (by omega)
    have h3 := Int.tdiv_eq_ediv_of_nonneg (b := 16) h1
    have h4 : (b - a) * (j : Int) = -((a - b) * (j : Int)) := by rw [← Int.neg_mul]; congr 1; omega
    rw [h4, Int.neg_tdiv, h3]
    generalize (a - b) * (j : Int) = d at *
    omega
theorem part_bd {R I a b k : Int} (hR : R.natAbs < 1048576 ∧ I.natAbs < 1048576) (hA : a.natAbs < 1048576 ∧ b.natAbs < 1048576) (hk : 0 ≤ k ∧ k ≤ 16) : (partF R a k).natAbs < 1048576 ∧ (partF I b k).natAbs < 1048576 :=
  ⟨part_bd0 hR.1 hA.1 hk, part_bd0 hR.2 hA.2 hk⟩
theorem cut_bd {n mo : Int} (hk : 0 ≤ mo ∧ mo < 1048576) : (cutF n mo).natAbs < 9007199254740992 := by
  unfold cutF; split <;> (try split) <;> omega
theorem run_equalIn_complex {P : Program} {w : World} (d : Nat) (t : TypeId) (k k' : FloatKind) (a b a' b' : Nat) (h : P.underlying t = some (.complex k')) : (Op.equalIn (d + 1) t (.complex k a b) (.complex k a' b')).run P w = .ok (Op.floatEq k a a' && Op.floatEq k b b') w := by
  simp [Op.equalIn, run_underlying h]
theorem eq31 (w : World) : (Op.equalIn 9999 31 (cx (wd false 0) (wd false 0)) (.complex .f64 0 0)).run Try.prog w = .ok true w := by
  have h := run_equalIn_complex (P := Try.prog) (w := w) 9998 31 .f64 .f64 (wd false 0) (wd false 0) 0 0 Try.underlying31
  rw [lit0] at h ⊢
  exact h.trans (by rw [show Op.floatEq .f64 0 0 = true by decide]; rfl)
section
variable {w W : World} {k : Nat} {L : List MRow}
theorem LW.frozen (h : LW w k L W) {b i : Nat} {t : TypeId} {cs : Array Value} (hx : (b, t, cs) ∈ L) : W.frozen? ⟨b, i, none⟩ = false := frozen_of_row W b i _ t (h.rows _ hx)
theorem LW.ne (h : LW w k L W) : ∀ x ∈ L, x.1 ≠ W.heap.size := fun x hx e => by
  have := (Array.getElem?_eq_some_iff.1 (h.rows x hx)).1
  omega
theorem LW.tail {x : MRow} (h : LW w k (x :: L) W) : LW w k L W := ⟨fun y hy => h.rows y (List.mem_cons_of_mem _ hy), h.below, h.size⟩
theorem LW.setOther {b i : Nat} (h : LW w k L W) (hne : ∀ x ∈ L, x.1 ≠ b) (hb : w.heap.size ≤ b) (v : Value) : LW w k L (W.setCell ⟨b, i, none⟩ v) :=
  ⟨fun x hx => (Below.heap_setCell W _ v x.1 (hne x hx)).trans (h.rows x hx), h.below.setCell hb _, by simpa using h.size⟩
theorem LW.setCell {b i : Nat} {t : TypeId} {cs : Array Value} (h : LW w k ((b, t, cs) :: L) W) (hne : ∀ x ∈ L, x.1 ≠ b) (hb : w.heap.size ≤ b) (v : Value) : LW w k ((b, t, cs.setIfInBounds i v) :: L) (W.setCell ⟨b, i, none⟩ v) := by
  refine ⟨fun x hx => ?_, h.below.setCell hb _, by simpa using h.size⟩
  rcases List.mem_cons.1 hx with rfl | hx
  · exact heap_setCell_same W b i cs t v (h.rows _ (List.mem_cons_self ..))
  · exact (Below.heap_setCell W _ v x.1 (hne x hx)).trans (h.rows x (List.mem_cons_of_mem _ hx))
end
set_option maxRecDepth 100000 in
set_option maxHeartbeats 8000000 in
theorem navMoves_walk (re0 im0 k0 re1 im1 k1 re2 im2 k2 re im kd wt mo : Int) (w : World) : Calls Try.prog 7 #[.agg #[.int .i64 re0, .int .i64 im0, .int .i64 k0, .int .i64 re1, .int .i64 im1, .int .i64 k1, .int .i64 re2, .int .i64 im2, .int .i64 k2], .agg #[.int .i64 re, .int .i64 im, .int .i64 kd, .int .i64 wt, .int .i64 mo]] w fun e w' => e = .returned (.bool true) ∧ Below w.heap.size w w' := by
  have hp := pose_any re0 im0 k0 re1 im1 k1 re2 im2 k2
  have hpp := plainPose_any re0 im0 k0 re1 im1 k1 re2 im2 k2
  have hv := value_any re im kd
  have hpl := plainN_any re im kd
  have hr := rightN_any re im kd
  have L0 := ((LW.nil w).new 43 #[.int .i64 re0, .int .i64 im0, .int .i64 k0, .int .i64 re1, .int .i64 im1, .int .i64 k1, .int .i64 re2, .int .i64 im2, .int .i64 k2]).new 67 #[.int .i64 re, .int .i64 im, .int .i64 kd, .int .i64 wt, .int .i64 mo]
  generalize plR re0 im0 k0 = R at *
  generalize plI re0 im0 k0 = I at *
  generalize plR re1 im1 k1 = S at *
  generalize plI re1 im1 k1 = J at *
  generalize plR re2 im2 k2 = N at *
  generalize plI re2 im2 k2 = M at *
  generalize plR re im kd = a at *
  generalize plI re im kd = b at *
  have LL0 : Hid (LW w 0 [(w.heap.size + 1, 67, #[.int .i64 re, .int .i64 im, .int .i64 kd, .int .i64 wt, .int .i64 mo]), (w.heap.size, 43, #[.int .i64 re0, .int .i64 im0, .int .i64 k0, .int .i64 re1, .int .i64 im1, .int .i64 k1, .int .i64 re2, .int .i64 im2, .int .i64 k2])] ((w.alloc (.cells #[.int .i64 re0, .int .i64 im0, .int .i64 k0, .int .i64 re1, .int .i64 im1, .int .i64 k1, .int .i64 re2, .int .i64 im2, .int .i64 k2] 43)).alloc (.cells #[.int .i64 re, .int .i64 im, .int .i64 kd, .int .i64 wt, .int .i64 mo] 67))) := by
    rw [World.size_alloc] at L0; exact L0
  clear L0
  have hck := rcheck_any R I S J N M
  go_enter Try.func7, Try.ntmps7
  go_wp2_with fail
  refine (hp _).mono ?_
  rintro e w1 ⟨x1, y1, x2, y2, x3, y3, rfl, n1, n2, n3, hb⟩
  have Lw1 := Lib.hid (LL0.out.bel hb)
  clear hb LL0 
  have Lw1n := Lib.hid (Lw1.out.new 45 #[cx x1 y1, cx x2 y2, cx x3 y3])
  clear Lw1
  have hdr := drift_gen n1 n2 n3
  have hbl := fun x y (h : Num x y a b) => blend_gen (x := x) (y := y) wt n1 n2 n3 h
  have hst := fun x y (h : Num x y a b) => steer_gen (x := x) (y := y) mo n1 n2 n3 h
  clear n1 n2 n3 hp
  obtain ⟨p1, hp1⟩ : ∃ x, gV (ckF R I S J N M) true (R + S) (I + J) (R + S) = x := ⟨_, rfl⟩
  rw [hp1] at hdr
  have Hp1 := Lib.hid hp1
  clear hp1
  obtain ⟨p2, hp2⟩ : ∃ x, gV (ckF R I S J N M) true (R + S) (I + J) (I + J) = x := ⟨_, rfl⟩
  rw [hp2] at hdr
  have Hp2 := Lib.hid hp2
  clear hp2
  obtain ⟨p3, hp3⟩ : ∃ x, gV (ckF R I S J N M) true (R + S) (I + J) S = x := ⟨_, rfl⟩
  rw [hp3] at hdr
  have Hp3 := Lib.hid hp3
  clear hp3
  obtain ⟨p4, hp4⟩ : ∃ x, gV (ckF R I S J N M) true (R + S) (I + J) J = x := ⟨_, rfl⟩
  rw [hp4] at hdr
  have Hp4 := Lib.hid hp4
  clear hp4
  obtain ⟨p5, hp5⟩ : ∃ x, gV (ckF R I S J N M) true (R + S) (I + J) N = x := ⟨_, rfl⟩
  rw [hp5] at hdr
  have Hp5 := Lib.hid hp5
  clear hp5
  obtain ⟨p6, hp6⟩ : ∃ x, gV (ckF R I S J N M) true (R + S) (I + J) M = x := ⟨_, rfl⟩
  rw [hp6] at hdr
  have Hp6 := Lib.hid hp6
  clear hp6
  obtain ⟨ed, hed⟩ : ∃ x, gE (ckF R I S J N M) true (R + S) (I + J) = x := ⟨_, rfl⟩
  rw [hed] at hdr
  have Hed := Lib.hid hed
  clear hed
  obtain ⟨b1, hb1⟩ : ∃ x, gV (ckF R I S J N M) (rightB a b && decide (0 ≤ wt ∧ wt ≤ 16)) 0 0 (partF R a wt) = x := ⟨_, rfl⟩
  rw [hb1] at hbl
  have Hb1 := Lib.hid hb1
  clear hb1
  obtain ⟨b2, hb2⟩ : ∃ x, gV (ckF R I S J N M) (rightB a b && decide (0 ≤ wt ∧ wt ≤ 16)) 0 0 (partF I b wt) = x := ⟨_, rfl⟩
  rw [hb2] at hbl
  have Hb2 := Lib.hid hb2
  clear hb2
  obtain ⟨b3, hb3⟩ : ∃ x, gV (ckF R I S J N M) (rightB a b && decide (0 ≤ wt ∧ wt ≤ 16)) 0 0 S = x := ⟨_, rfl⟩
  rw [hb3] at hbl
  have Hb3 := Lib.hid hb3
  clear hb3
  obtain ⟨b4, hb4⟩ : ∃ x, gV (ckF R I S J N M) (rightB a b && decide (0 ≤ wt ∧ wt ≤ 16)) 0 0 J = x := ⟨_, rfl⟩
  rw [hb4] at hbl
  have Hb4 := Lib.hid hb4
  clear hb4
  obtain ⟨b5, hb5⟩ : ∃ x, gV (ckF R I S J N M) (rightB a b && decide (0 ≤ wt ∧ wt ≤ 16)) 0 0 N = x := ⟨_, rfl⟩
  rw [hb5] at hbl
  have Hb5 := Lib.hid hb5
  clear hb5
  obtain ⟨b6, hb6⟩ : ∃ x, gV (ckF R I S J N M) (rightB a b && decide (0 ≤ wt ∧ wt ≤ 16)) 0 0 M = x := ⟨_, rfl⟩
  rw [hb6] at hbl
  have Hb6 := Lib.hid hb6
  clear hb6
  obtain ⟨eb, heb⟩ : ∃ x, gE (ckF R I S J N M) (rightB a b && decide (0 ≤ wt ∧ wt ≤ 16)) 0 0 = x := ⟨_, rfl⟩
  rw [heb] at hbl
  have Heb := Lib.hid heb
  clear heb
  obtain ⟨s1, hs1⟩ : ∃ x, gV (ckF R I S J N M) (rightB a b && decide (0 ≤ mo ∧ mo < 1048576)) 0 0 (cutF (a - R) mo) = x := ⟨_, rfl⟩
  rw [hs1] at hst
  have Hs1 := Lib.hid hs1
  clear hs1
  obtain ⟨s2, hs2⟩ : ∃ x, gV (ckF R I S J N M) (rightB a b && decide (0 ≤ mo ∧ mo < 1048576)) 0 0 (cutF (b - I) mo) = x := ⟨_, rfl⟩
  rw [hs2] at hst
  have Hs2 := Lib.hid hs2
  clear hs2
  obtain ⟨es, hes⟩ : ∃ x, gE (ckF R I S J N M) (rightB a b && decide (0 ≤ mo ∧ mo < 1048576)) 0 0 = x := ⟨_, rfl⟩
  rw [hes] at hst
  have Hes := Lib.hid hes
  clear hes
  have f0 := Lw1n.out.cell (i := 0) (v := .int .i64 re0) (List.mem_cons_of_mem _ (List.mem_cons_of_mem _ (List.mem_cons_self ..))) rfl
  have f1 := Lw1n.out.cell (i := 1) (v := .int .i64 im0) (List.mem_cons_of_mem _ (List.mem_cons_of_mem _ (List.mem_cons_self ..))) rfl
  have f2 := Lw1n.out.cell (i := 2) (v := .int .i64 k0) (List.mem_cons_of_mem _ (List.mem_cons_of_mem _ (List.mem_cons_self ..))) rfl
  have f3 := Lw1n.out.cell (i := 3) (v := .int .i64 re1) (List.mem_cons_of_mem _ (List.mem_cons_of_mem _ (List.mem_cons_self ..))) rfl
  have f4 := Lw1n.out.cell (i := 4) (v := .int .i64 im1) (List.mem_cons_of_mem _ (List.mem_cons_of_mem _ (List.mem_cons_self ..))) rfl
  have f5 := Lw1n.out.cell (i := 5) (v := .int .i64 k1) (List.mem_cons_of_mem _ (List.mem_cons_of_mem _ (List.mem_cons_self ..))) rfl
  have f6 := Lw1n.out.cell (i := 6) (v := .int .i64 re2) (List.mem_cons_of_mem _ (List.mem_cons_of_mem _ (List.mem_cons_self ..))) rfl
  have f7 := Lw1n.out.cell (i := 7) (v := .int .i64 im2) (List.mem_cons_of_mem _ (List.mem_cons_of_mem _ (List.mem_cons_self ..))) rfl
  have f8 := Lw1n.out.cell (i := 8) (v := .int .i64 k2) (List.mem_cons_of_mem _ (List.mem_cons_of_mem _ (List.mem_cons_self ..))) rfl
  go_wp2_with fail
  refine (hpp _).mono ?_
  rintro e w2 ⟨rfl, hb⟩
  have Lw2 := Lib.hid (Lw1n.out.bel hb)
  clear hb Lw1n f0 f1 f2 f3 f4 f5 f6 f7 f8
  have Lw2n := Lib.hid (Lw2.out.new 48 #[.int .i64 R, .int .i64 I, .int .i64 S, .int .i64 J, .int .i64 N, .int .i64 M])
  clear Lw2
  have f9 := Lw2n.out.cell (i := 0) (v := cx x1 y1) (List.mem_cons_of_mem _ (List.mem_cons_self ..)) rfl
  have f10 := Lw2n.out.cell (i := 1) (v := cx x2 y2) (List.mem_cons_of_mem _ (List.mem_cons_self ..)) rfl
  have f11 := Lw2n.out.cell (i := 2) (v := cx x3 y3) (List.mem_cons_of_mem _ (List.mem_cons_self ..)) rfl
  go_wp2_with fail
  refine (hdr _).mono ?_
  rintro e w3 ⟨rfl, hb⟩
  have Lw3 := Lib.hid (Lw2n.out.bel hb)
  clear hb Lw2n f9 f10 f11
  have Lw3n := Lib.hid (Lw3.out.new 45 #[cx (wd false p1) (wd false p2), cx (wd false p3) (wd false p4), cx (wd false p5) (wd false p6)])
  clear Lw3
  clear hpp hdr
  obtain ⟨W3, hW3⟩ : ∃ x, w3.alloc (.cells #[cx (wd false p1) (wd false p2), cx (wd false p3) (wd false p4), cx (wd false p5) (wd false p6)] 45) = x := ⟨_, rfl⟩
  rw [hW3] at Lw3n
  go_wp2
  clear hW3
  have LD := Lib.hid Lw3n.out.drew
  clear Lw3n
  refine Code.wp_mono (Q := fun e_ a_ W' => e_ = .normal ∧ ∃ g x4 y4, a_ = ({ tmps := #[Value.agg #[Value.int IntKind.i64 re0, Value.int IntKind.i64 im0, Value.int IntKind.i64 k0, Value.int IntKind.i64 re1, Value.int IntKind.i64 im1, Value.int IntKind.i64 k1, Value.int IntKind.i64 re2, Value.int IntKind.i64 im2, Value.int IntKind.i64 k2], Value.agg #[Value.int IntKind.i64 re, Value.int IntKind.i64 im, Value.int IntKind.i64 kd, Value.int IntKind.i64 wt, Value.int IntKind.i64 mo], Value.pointer (some { block := w.heap.size, off := 0 }), Value.pointer (some { block := w.heap.size + 1, off := 0 }), Value.bool false, Value.pointer (some { block := w1.heap.size, off := 0 }), Value.pointer (some { block := w2.heap.size, off := 0 }), Value.pointer (some { block := w3.heap.size, off := 0 }), Value.int IntKind.i64 ed, .pointer (some ⟨g, 0, none⟩), .int .i64 eb, undef, undef, undef, undef, undef, undef, undef, Value.agg #[Value.int IntKind.i64 re0, Value.int IntKind.i64 im0, Value.int IntKind.i64 k0, Value.int IntKind.i64 re1, Value.int IntKind.i64 im1, Value.int IntKind.i64 k1, Value.int IntKind.i64 re2, Value.int IntKind.i64 im2, Value.int IntKind.i64 k2], ps x1 y1 x2 y2 x3 y3, Value.agg #[Value.int IntKind.i64 re0, Value.int IntKind.i64 im0, Value.int IntKind.i64 k0, Value.int IntKind.i64 re1, Value.int IntKind.i64 im1, Value.int IntKind.i64 k1, Value.int IntKind.i64 re2, Value.int IntKind.i64 im2, Value.int IntKind.i64 k2], pz R I S J N M, pairP (wd false p1) (wd false p2) (wd false p3) (wd false p4) (wd false p5) (wd false p6) ed, Value.agg #[cx x1 y1, cx x2 y2, cx x3 y3], pairP (wd false p1) (wd false p2) (wd false p3) (wd false p4) (wd false p5) (wd false p6) ed, ps (wd false p1) (wd false p2) (wd false p3) (wd false p4) (wd false p5) (wd false p6), Value.int IntKind.i64 ed, pairP (wd false b1) (wd false b2) (wd false b3) (wd false b4) (wd false b5) (wd false b6) eb, .agg #[cx x1 y1, cx x2 y2, cx x3 y3], .pointer (some ⟨w.heap.size + 1, 0, none⟩), .agg #[.int .i64 re, .int .i64 im, .int .i64 kd], cx x4 y4, .pointer (some ⟨w.heap.size + 1, 3, none⟩), .int .i64 wt, pairP (wd false b1) (wd false b2) (wd false b3) (wd false b4) (wd false b5) (wd false b6) eb, ps (wd false b1) (wd false b2) (wd false b3) (wd false b4) (wd false b5) (wd false b6), .int .i64 eb, undef, undef, undef, undef, undef, undef, undef, undef, undef, undef, undef, undef, undef, undef, undef, undef, undef, undef, undef, undef, undef, undef, undef, undef, undef, undef, undef, undef, undef, undef, undef, undef, undef, undef, undef, undef, undef, undef, undef, undef, undef, undef, undef, undef, undef, undef, undef, undef, undef, undef, undef, undef, undef, undef, undef, undef, undef, undef, undef, undef, undef, undef, undef, undef, undef, undef, undef, undef, undef, undef, undef, undef, undef, undef, undef, undef, undef, undef, undef, undef, undef, undef, undef, undef, undef, undef, undef, undef, undef, undef, undef, undef, undef, undef, undef, undef, undef, undef, undef, undef, undef, undef, undef, undef, undef, undef, undef, undef, undef, undef, undef, undef, undef, undef, undef, undef, undef, undef, undef, undef, undef, undef, undef, undef, undef, undef, undef, undef, undef, undef, undef, undef, undef, undef, undef, undef, undef, undef, undef, undef, undef, undef, undef, undef, undef, undef, undef, undef, undef, undef, undef, undef, undef, undef, undef, undef, undef, undef, undef, undef, undef, undef, undef, undef, undef, undef, undef, undef, undef, undef, undef, undef], defers := [] } : Act) ∧ LW w 0 [(g, 45, #[cx (wd false b1) (wd false b2), cx (wd false b3) (wd false b4), cx (wd false b5) (wd false b6)]), (w3.heap.size, 45, #[cx (wd false p1) (wd false p2), cx (wd false p3) (wd false p4), cx (wd false p5) (wd false p6)]), (w2.heap.size, 48, #[.int .i64 R, .int .i64 I, .int .i64 S, .int .i64 J, .int .i64 N, .int .i64 M]), (w1.heap.size, 45, #[cx x1 y1, cx x2 y2, cx x3 y3]), (w.heap.size + 1, 67, #[.int .i64 re, .int .i64 im, .int .i64 kd, .int .i64 wt, .int .i64 mo]), (w.heap.size, 43, #[.int .i64 re0, .int .i64 im0, .int .i64 k0, .int .i64 re1, .int .i64 im1, .int .i64 k1, .int .i64 re2, .int .i64 im2, .int .i64 k2])] W') ?impm4 ?regm4
  case regm4 =>
    clear hst hpl hr hck
    have hge0 : W3.drew.heap.size ≤ W3.heap.size := Nat.le_refl _
    have sv : Hid (∀ W, Below W3.drew.heap.size W3.drew W → Below W3.drew.heap.size W3.drew W ∧ W.cell? ⟨w1.heap.size, 0, none⟩ = some (cx x1 y1) ∧ W.cell? ⟨w1.heap.size, 1, none⟩ = some (cx x2 y2) ∧ W.cell? ⟨w1.heap.size, 2, none⟩ = some (cx x3 y3) ∧ W.cell? ⟨w.heap.size + 1, 0, none⟩ = some (.int .i64 re) ∧ W.cell? ⟨w.heap.size + 1, 1, none⟩ = some (.int .i64 im) ∧ W.cell? ⟨w.heap.size + 1, 2, none⟩ = some (.int .i64 kd) ∧ W.cell? ⟨w.heap.size + 1, 3, none⟩ = some (.int .i64 wt)) := Lib.hid fun W hb => by
      have LL := LD.out.bel hb
      exact ⟨hb, LL.cell (i := 0) (v := cx x1 y1) (List.mem_cons_of_mem _ (List.mem_cons_of_mem _ (List.mem_cons_self ..))) rfl, LL.cell (i := 1) (v := cx x2 y2) (List.mem_cons_of_mem _ (List.mem_cons_of_mem _ (List.mem_cons_self ..))) rfl, LL.cell (i := 2) (v := cx x3 y3) (List.mem_cons_of_mem _ (List.mem_cons_of_mem _ (List.mem_cons_self ..))) rfl, LL.cell (i := 0) (v := .int .i64 re) (List.mem_cons_of_mem _ (List.mem_cons_of_mem _ (List.mem_cons_of_mem _ (List.mem_cons_self ..)))) rfl, LL.cell (i := 1) (v := .int .i64 im) (List.mem_cons_of_mem _ (List.mem_cons_of_mem _ (List.mem_cons_of_mem _ (List.mem_cons_self ..)))) rfl, LL.cell (i := 2) (v := .int .i64 kd) (List.mem_cons_of_mem _ (List.mem_cons_of_mem _ (List.mem_cons_of_mem _ (List.mem_cons_self ..)))) rfl, LL.cell (i := 3) (v := .int .i64 wt) (List.mem_cons_of_mem _ (List.mem_cons_of_mem _ (List.mem_cons_of_mem _ (List.mem_cons_self ..)))) rfl⟩
    have BK0 := Below.refl W3.drew.heap.size W3.drew
    go_region_held3 (fun W => Below W3.drew.heap.size W3.drew W ∧ W.cell? ⟨w1.heap.size, 0, none⟩ = some (cx x1 y1) ∧ W.cell? ⟨w1.heap.size, 1, none⟩ = some (cx x2 y2) ∧ W.cell? ⟨w1.heap.size, 2, none⟩ = some (cx x3 y3) ∧ W.cell? ⟨w.heap.size + 1, 0, none⟩ = some (.int .i64 re) ∧ W.cell? ⟨w.heap.size + 1, 1, none⟩ = some (.int .i64 im) ∧ W.cell? ⟨w.heap.size + 1, 2, none⟩ = some (.int .i64 kd) ∧ W.cell? ⟨w.heap.size + 1, 3, none⟩ = some (.int .i64 wt))
      (first | (with_reducible exact sv.out _ BK0) | (with_reducible assumption) | (with_reducible exact sv.out _ (bt (And.left (by assumption)) hbw)) | (with_reducible exact sv.out _ (bt_alloc (And.left (by assumption)) _)) | (with_reducible exact sv.out _ (bt_allocd (And.left (by assumption)) _)) | (with_reducible exact sv.out _ (bt_re (And.left (by assumption)) (by assumption))) | (with_reducible exact sv.out _ (bt_set (And.left (by assumption)) (by assumption) _)))
      (first | (go_at_call 14; refine (hv _).mono ?_; rintro e w_ ⟨x4, y4, rfl, hN, hbw⟩; have hge := bt_ge (And.left (by assumption)) hbw; (first | have hRR := RR.bel (k := 3) (t := 45) (by assumption) hbw | have hRR := RR.bel (rr45 _ _ _ _) hbw | have hRR := RR.bel (rr45d _ _ _ _) hbw | skip)) | (go_at_call 33; refine (hbl _ _ (by assumption) _).mono ?_; rintro e w_ ⟨rfl, hbw⟩; have hge := bt_ge (And.left (by assumption)) hbw; (first | have hRR := RR.bel (k := 3) (t := 45) (by assumption) hbw | have hRR := RR.bel (rr45 _ _ _ _) hbw | have hRR := RR.bel (rr45d _ _ _ _) hbw | skip)))
    all_goals
      rename_i hK
      first | exact ⟨rfl, _, _, _, rfl, LW.add (LD.out.bel hK.1) (heap_alloc_new _ _)⟩ | exact ⟨rfl, _, _, _, rfl, LW.add (LD.out.bel hK.1) (RR.setRow_row (k := 3) (t := 45) (by assumption) _)⟩
  rintro e_ a_ W4 ⟨rfl, g, x4, y4, rfl, l4⟩
  have LD4 := Lib.hid l4.drew
  clear l4 LD hbl
  go_wp2
  have sv : Hid (∀ W, Below W4.drew.heap.size W4.drew W → Below W4.drew.heap.size W4.drew W ∧ W.cell? ⟨w1.heap.size, 0, none⟩ = some (cx x1 y1) ∧ W.cell? ⟨w1.heap.size, 1, none⟩ = some (cx x2 y2) ∧ W.cell? ⟨w1.heap.size, 2, none⟩ = some (cx x3 y3) ∧ W.cell? ⟨w.heap.size + 1, 0, none⟩ = some (.int .i64 re) ∧ W.cell? ⟨w.heap.size + 1, 1, none⟩ = some (.int .i64 im) ∧ W.cell? ⟨w.heap.size + 1, 2, none⟩ = some (.int .i64 kd) ∧ W.cell? ⟨w.heap.size + 1, 4, none⟩ = some (.int .i64 mo)) := Lib.hid fun W hb => by
    have LL := LD4.out.bel hb
    exact ⟨hb, LL.cell (i := 0) (v := cx x1 y1) (List.mem_cons_of_mem _ (List.mem_cons_of_mem _ (List.mem_cons_of_mem _ (List.mem_cons_self ..)))) rfl, LL.cell (i := 1) (v := cx x2 y2) (List.mem_cons_of_mem _ (List.mem_cons_of_mem _ (List.mem_cons_of_mem _ (List.mem_cons_self ..)))) rfl, LL.cell (i := 2) (v := cx x3 y3) (List.mem_cons_of_mem _ (List.mem_cons_of_mem _ (List.mem_cons_of_mem _ (List.mem_cons_self ..)))) rfl, LL.cell (i := 0) (v := .int .i64 re) (List.mem_cons_of_mem _ (List.mem_cons_of_mem _ (List.mem_cons_of_mem _ (List.mem_cons_of_mem _ (List.mem_cons_self ..))))) rfl, LL.cell (i := 1) (v := .int .i64 im) (List.mem_cons_of_mem _ (List.mem_cons_of_mem _ (List.mem_cons_of_mem _ (List.mem_cons_of_mem _ (List.mem_cons_self ..))))) rfl, LL.cell (i := 2) (v := .int .i64 kd) (List.mem_cons_of_mem _ (List.mem_cons_of_mem _ (List.mem_cons_of_mem _ (List.mem_cons_of_mem _ (List.mem_cons_self ..))))) rfl, LL.cell (i := 4) (v := .int .i64 mo) (List.mem_cons_of_mem _ (List.mem_cons_of_mem _ (List.mem_cons_of_mem _ (List.mem_cons_of_mem _ (List.mem_cons_self ..))))) rfl⟩
  have BK0 := Below.refl W4.drew.heap.size W4.drew
  go_region_held3 (fun W => Below W4.drew.heap.size W4.drew W ∧ W.cell? ⟨w1.heap.size, 0, none⟩ = some (cx x1 y1) ∧ W.cell? ⟨w1.heap.size, 1, none⟩ = some (cx x2 y2) ∧ W.cell? ⟨w1.heap.size, 2, none⟩ = some (cx x3 y3) ∧ W.cell? ⟨w.heap.size + 1, 0, none⟩ = some (.int .i64 re) ∧ W.cell? ⟨w.heap.size + 1, 1, none⟩ = some (.int .i64 im) ∧ W.cell? ⟨w.heap.size + 1, 2, none⟩ = some (.int .i64 kd) ∧ W.cell? ⟨w.heap.size + 1, 4, none⟩ = some (.int .i64 mo))
    (first | (with_reducible exact sv.out _ BK0) | (with_reducible assumption) | (with_reducible exact sv.out _ (bt (And.left (by assumption)) hbw)))
    (first | (go_at_call 14; refine (hv _).mono ?_; rintro e w_ ⟨x5, y5, rfl, hN, hbw⟩) | (go_at_call 34; refine (hst _ _ (by assumption) _).mono ?_; rintro e w_ ⟨rfl, hbw⟩))
  rename_i hK
  have LL5 := Lib.hid (LD4.out.bel hK.1)
  clear hK LD4 hst hv sv BK0
  have f12 := LL5.out.cell (i := 0) (v := .int .i64 R) (List.mem_cons_of_mem _ (List.mem_cons_of_mem _ (List.mem_cons_self ..))) rfl
  have f13 := LL5.out.cell (i := 1) (v := .int .i64 I) (List.mem_cons_of_mem _ (List.mem_cons_of_mem _ (List.mem_cons_self ..))) rfl
  have f14 := LL5.out.cell (i := 2) (v := .int .i64 S) (List.mem_cons_of_mem _ (List.mem_cons_of_mem _ (List.mem_cons_self ..))) rfl
  have f15 := LL5.out.cell (i := 3) (v := .int .i64 J) (List.mem_cons_of_mem _ (List.mem_cons_of_mem _ (List.mem_cons_self ..))) rfl
  have f16 := LL5.out.cell (i := 4) (v := .int .i64 N) (List.mem_cons_of_mem _ (List.mem_cons_of_mem _ (List.mem_cons_self ..))) rfl
  have f17 := LL5.out.cell (i := 5) (v := .int .i64 M) (List.mem_cons_of_mem _ (List.mem_cons_of_mem _ (List.mem_cons_self ..))) rfl
  go_wp2_with fail
  refine (hck _).mono ?_
  rintro e w6 ⟨rfl, hb⟩
  have Lw6 := Lib.hid (LL5.out.bel hb)
  clear hb LL5 f12 f13 f14 f15 f16 f17
  have Lw6n := Lib.hid (Lw6.out.new 45 #[.complex .f64 0 0, .complex .f64 0 0, .complex .f64 0 0])
  clear Lw6
  clear hck
  have heq0 := eq31
  have hz0 : Ieee.double.order (wd false 0) 0 = some .eq := by decide
  by_cases hc : ¬ ckF R I S J N M = 0
  · obtain rfl : 0 = p1 := (gV_ck hc).symm.trans Hp1.out
    obtain rfl : 0 = p2 := (gV_ck hc).symm.trans Hp2.out
    obtain rfl : 0 = p3 := (gV_ck hc).symm.trans Hp3.out
    obtain rfl : 0 = p4 := (gV_ck hc).symm.trans Hp4.out
    obtain rfl : 0 = p5 := (gV_ck hc).symm.trans Hp5.out
    obtain rfl : 0 = p6 := (gV_ck hc).symm.trans Hp6.out
    obtain rfl : 0 = b1 := (gV_ck hc).symm.trans Hb1.out
    obtain rfl : 0 = b2 := (gV_ck hc).symm.trans Hb2.out
    obtain rfl : 0 = b3 := (gV_ck hc).symm.trans Hb3.out
    obtain rfl : 0 = b4 := (gV_ck hc).symm.trans Hb4.out
    obtain rfl : 0 = b5 := (gV_ck hc).symm.trans Hb5.out
    obtain rfl : 0 = b6 := (gV_ck hc).symm.trans Hb6.out
    obtain rfl : 0 = s1 := (gV_ck hc).symm.trans Hs1.out
    obtain rfl : 0 = s2 := (gV_ck hc).symm.trans Hs2.out
    obtain rfl : ckF R I S J N M = ed := (gE_ck hc).symm.trans Hed.out
    obtain rfl : ckF R I S J N M = eb := (gE_ck hc).symm.trans Heb.out
    obtain rfl : ckF R I S J N M = es := (gE_ck hc).symm.trans Hes.out
    clear Hp1 Hp2 Hp3 Hp4 Hp5 Hp6 Hb1 Hb2 Hb3 Hb4 Hb5 Hb6 Hs1 Hs2 Hed Heb Hes
    generalize ckF R I S J N M = c at *
    have hne : (c != 0) = true := by simp [bne, hc]
    clear hc
    have f0 := Lw6n.out.cell (i := 0) (v := cx (wd false 0) (wd false 0)) (List.mem_cons_of_mem _ (List.mem_cons_of_mem _ (List.mem_cons_self ..))) rfl
    have f1 := Lw6n.out.cell (i := 1) (v := cx (wd false 0) (wd false 0)) (List.mem_cons_of_mem _ (List.mem_cons_of_mem _ (List.mem_cons_self ..))) rfl
    have f2 := Lw6n.out.cell (i := 2) (v := cx (wd false 0) (wd false 0)) (List.mem_cons_of_mem _ (List.mem_cons_of_mem _ (List.mem_cons_self ..))) rfl
    have f3 := Lw6n.out.cell (i := 0) (v := cx (wd false 0) (wd false 0)) (List.mem_cons_of_mem _ (List.mem_cons_self ..)) rfl
    have f4 := Lw6n.out.cell (i := 1) (v := cx (wd false 0) (wd false 0)) (List.mem_cons_of_mem _ (List.mem_cons_self ..)) rfl
    have f5 := Lw6n.out.cell (i := 2) (v := cx (wd false 0) (wd false 0)) (List.mem_cons_of_mem _ (List.mem_cons_self ..)) rfl
    have f6 := Lw6n.out.cell (i := 0) (v := .complex .f64 0 0) (List.mem_cons_self ..) rfl
    have f7 := Lw6n.out.cell (i := 1) (v := .complex .f64 0 0) (List.mem_cons_self ..) rfl
    have f8 := Lw6n.out.cell (i := 2) (v := .complex .f64 0 0) (List.mem_cons_self ..) rfl
    go_wp2_with fail
    refine (awake_any _).mono ?_
    rintro e wz ⟨rfl, hb⟩
    have Lwz := Lib.hid (Lw6n.out.bel hb)
    clear hb Lw6n f0 f1 f2 f3 f4 f5 f6 f7 f8
    go_wp2
    go_ret
    exact ⟨rfl, Lwz.out.below⟩
  have hc := Decidable.not_not.1 hc
  rw [hc] at Hp1 Hp2 Hp3 Hp4 Hp5 Hp6 Hb1 Hb2 Hb3 Hb4 Hb5 Hb6 Hs1 Hs2 Hed Heb Hes ⊢
  obtain ⟨g1, g2, g3⟩ := ck_zero hc
  have hN := right_bd (nose_bd g3)
  have hR := right_bd g1
  have hS := right_bd g2
  clear hc g1 g2 g3
  have hA := addZ_any R I S J (wr3 (by omega)) (wr3 (by omega))
  have hRS : rightB (R + S) (I + J) = true → ∀ w, Calls Try.prog 35 #[ps (wd false (R + S)) (wd false (I + J)) (wd false S) (wd false J) (wd false N) (wd false M), pz (R + S) (I + J) S J N M] w fun e w' => e = .returned (.bool true) ∧ Below w.heap.size w w' := fun h => isPose_any (R + S) (I + J) S J N M (right_bd h) hS hN
  have hBL : rightB a b = true → 0 ≤ wt ∧ wt ≤ 16 → _ ∧ _ ∧ _ := fun h hk => And.intro (part_any R a wt hR.1 (right_bd h).1 hk) (And.intro (part_any I b wt hR.2 (right_bd h).2 hk) (isPose_any (partF R a wt) (partF I b wt) S J N M (part_bd hR (right_bd h) hk) hS hN))
  have hST : rightB a b = true → 0 ≤ mo ∧ mo < 1048576 → _ ∧ _ ∧ _ ∧ _ ∧ _ := fun h hk => And.intro (wr3 (n := a - R) (by have := right_bd h; omega)) (And.intro (wr3 (n := b - I) (by have := right_bd h; omega)) (And.intro (cut_any (a - R) mo hk) (And.intro (cut_any (b - I) mo hk) (is_any (cutF (a - R) mo) (cutF (b - I) mo) (cut_bd hk) (cut_bd hk)))))
  have HB1 : Hid (rightB a b = true → R.natAbs < 1048576 ∧ I.natAbs < 1048576 ∧ a.natAbs < 1048576 ∧ b.natAbs < 1048576) := Lib.hid fun h => ⟨hR.1, hR.2, (right_bd h).1, (right_bd h).2⟩
  have HRS := Lib.hid hRS
  have HBL := Lib.hid hBL
  have HST := Lib.hid hST
  have hzr := rightZ_any (R + S) (I + J)
  clear hRS hBL hST hR hS hN
  have f18 := Lw6n.out.cell (i := 0) (v := .int .i64 R) (List.mem_cons_of_mem _ (List.mem_cons_of_mem _ (List.mem_cons_of_mem _ (List.mem_cons_self ..)))) rfl
  have f19 := Lw6n.out.cell (i := 1) (v := .int .i64 I) (List.mem_cons_of_mem _ (List.mem_cons_of_mem _ (List.mem_cons_of_mem _ (List.mem_cons_self ..)))) rfl
  have f20 := Lw6n.out.cell (i := 2) (v := .int .i64 S) (List.mem_cons_of_mem _ (List.mem_cons_of_mem _ (List.mem_cons_of_mem _ (List.mem_cons_self ..)))) rfl
  have f21 := Lw6n.out.cell (i := 3) (v := .int .i64 J) (List.mem_cons_of_mem _ (List.mem_cons_of_mem _ (List.mem_cons_of_mem _ (List.mem_cons_self ..)))) rfl
  have f22 := Lw6n.out.cell (i := 4) (v := .int .i64 N) (List.mem_cons_of_mem _ (List.mem_cons_of_mem _ (List.mem_cons_of_mem _ (List.mem_cons_self ..)))) rfl
  have f23 := Lw6n.out.cell (i := 5) (v := .int .i64 M) (List.mem_cons_of_mem _ (List.mem_cons_of_mem _ (List.mem_cons_of_mem _ (List.mem_cons_self ..)))) rfl
  have NE15 := Lib.hid Lw6n.out.ne
  have GE15 := Lib.hid Lw6n.out.below.size
  have L15 := Lib.hid (Lw6n.out.new 48 #[.int .i64 R, .int .i64 I, .int .i64 S, .int .i64 J, .int .i64 N, .int .i64 M])
  clear Lw6n
  rw [World.size_alloc] at L15 NE15 GE15
  have f24 := L15.out.cell (i := 0) (v := .int .i64 R) (List.mem_cons_of_mem _ (List.mem_cons_of_mem _ (List.mem_cons_of_mem _ (List.mem_cons_of_mem _ (List.mem_cons_self ..))))) rfl
  have f25 := L15.out.cell (i := 1) (v := .int .i64 I) (List.mem_cons_of_mem _ (List.mem_cons_of_mem _ (List.mem_cons_of_mem _ (List.mem_cons_of_mem _ (List.mem_cons_self ..))))) rfl
  have f26 := L15.out.cell (i := 2) (v := .int .i64 S) (List.mem_cons_of_mem _ (List.mem_cons_of_mem _ (List.mem_cons_of_mem _ (List.mem_cons_of_mem _ (List.mem_cons_self ..))))) rfl
  have f27 := L15.out.cell (i := 3) (v := .int .i64 J) (List.mem_cons_of_mem _ (List.mem_cons_of_mem _ (List.mem_cons_of_mem _ (List.mem_cons_of_mem _ (List.mem_cons_self ..))))) rfl
  have f28 := L15.out.cell (i := 4) (v := .int .i64 N) (List.mem_cons_of_mem _ (List.mem_cons_of_mem _ (List.mem_cons_of_mem _ (List.mem_cons_of_mem _ (List.mem_cons_self ..))))) rfl
  have f29 := L15.out.cell (i := 5) (v := .int .i64 M) (List.mem_cons_of_mem _ (List.mem_cons_of_mem _ (List.mem_cons_of_mem _ (List.mem_cons_of_mem _ (List.mem_cons_self ..))))) rfl
  go_wp2_with fail
  refine (hA _).mono ?_
  rintro e w7 ⟨rfl, hb⟩
  have Lw7 := Lib.hid (L15.out.bel hb)
  clear hb L15 f18 f19 f20 f21 f22 f23 f24 f25 f26 f27 f28 f29
  clear hA
  have f90 := Lw7.out.cell (i := 0) (v := .int .i64 R) (List.mem_cons_self ..) rfl
  have f91 := Lw7.out.cell (i := 1) (v := .int .i64 I) (List.mem_cons_self ..) rfl
  have f92 := Lw7.out.frozen (i := 0) (List.mem_cons_self ..)
  have f93 := Lw7.out.frozen (i := 1) (List.mem_cons_self ..)
  have L8 : Hid (LW w 0 [(w6.heap.size + 1, 48, #[.int .i64 (R + S), .int .i64 (I + J), .int .i64 S, .int .i64 J, .int .i64 N, .int .i64 M]), (w6.heap.size, 45, #[.complex .f64 0 0, .complex .f64 0 0, .complex .f64 0 0]), (g, 45, #[cx (wd false b1) (wd false b2), cx (wd false b3) (wd false b4), cx (wd false b5) (wd false b6)]), (w3.heap.size, 45, #[cx (wd false p1) (wd false p2), cx (wd false p3) (wd false p4), cx (wd false p5) (wd false p6)]), (w2.heap.size, 48, #[.int .i64 R, .int .i64 I, .int .i64 S, .int .i64 J, .int .i64 N, .int .i64 M]), (w1.heap.size, 45, #[cx x1 y1, cx x2 y2, cx x3 y3]), (w.heap.size + 1, 67, #[.int .i64 re, .int .i64 im, .int .i64 kd, .int .i64 wt, .int .i64 mo]), (w.heap.size, 43, #[.int .i64 re0, .int .i64 im0, .int .i64 k0, .int .i64 re1, .int .i64 im1, .int .i64 k1, .int .i64 re2, .int .i64 im2, .int .i64 k2])] ((w7.setCell ⟨w6.heap.size + 1, 0, none⟩ (.int .i64 (R + S))).setCell ⟨w6.heap.size + 1, 1, none⟩ (.int .i64 (I + J)))) := Lib.hid ((Lw7.out.setCell (i := 0) NE15.out (by have := GE15.out; omega) (.int .i64 (R + S))).setCell (i := 1) NE15.out (by have := GE15.out; omega) (.int .i64 (I + J)))
  clear Lw7
  go_wp2_with fail
  refine (hzr _).mono ?_
  rintro e w8 ⟨rfl, hb⟩
  have Lw8 := Lib.hid (L8.out.bel hb)
  clear hb L8 
  clear hzr f90 f91 f92 f93 NE15 GE15
  cases hrs : rightB (R + S) (I + J) with
  | false =>
    obtain rfl : 10 = ed := (gE_n hrs).symm.trans Hed.out
    obtain rfl : 0 = p1 := (gV_n hrs).symm.trans Hp1.out
    obtain rfl : 0 = p2 := (gV_n hrs).symm.trans Hp2.out
    obtain rfl : 0 = p3 := (gV_n hrs).symm.trans Hp3.out
    obtain rfl : 0 = p4 := (gV_n hrs).symm.trans Hp4.out
    obtain rfl : 0 = p5 := (gV_n hrs).symm.trans Hp5.out
    obtain rfl : 0 = p6 := (gV_n hrs).symm.trans Hp6.out
    clear hrs HRS Hed Hp1 Hp2 Hp3 Hp4 Hp5 Hp6
    have f30 := Lw8.out.cell (i := 0) (v := cx (wd false 0) (wd false 0)) (List.mem_cons_of_mem _ (List.mem_cons_of_mem _ (List.mem_cons_of_mem _ (List.mem_cons_self ..)))) rfl
    have f31 := Lw8.out.cell (i := 1) (v := cx (wd false 0) (wd false 0)) (List.mem_cons_of_mem _ (List.mem_cons_of_mem _ (List.mem_cons_of_mem _ (List.mem_cons_self ..)))) rfl
    have f32 := Lw8.out.cell (i := 2) (v := cx (wd false 0) (wd false 0)) (List.mem_cons_of_mem _ (List.mem_cons_of_mem _ (List.mem_cons_of_mem _ (List.mem_cons_self ..)))) rfl
    have f33 := Lw8.out.cell (i := 0) (v := .complex .f64 0 0) (List.mem_cons_of_mem _ (List.mem_cons_self ..)) rfl
    have f34 := Lw8.out.cell (i := 1) (v := .complex .f64 0 0) (List.mem_cons_of_mem _ (List.mem_cons_self ..)) rfl
    have f35 := Lw8.out.cell (i := 2) (v := .complex .f64 0 0) (List.mem_cons_of_mem _ (List.mem_cons_self ..)) rfl
    have f36 := Lw8.out.cell (i := 0) (v := .int .i64 re) (List.mem_cons_of_mem _ (List.mem_cons_of_mem _ (List.mem_cons_of_mem _ (List.mem_cons_of_mem _ (List.mem_cons_of_mem _ (List.mem_cons_of_mem _ (List.mem_cons_self ..))))))) rfl
    have f37 := Lw8.out.cell (i := 1) (v := .int .i64 im) (List.mem_cons_of_mem _ (List.mem_cons_of_mem _ (List.mem_cons_of_mem _ (List.mem_cons_of_mem _ (List.mem_cons_of_mem _ (List.mem_cons_of_mem _ (List.mem_cons_self ..))))))) rfl
    have f38 := Lw8.out.cell (i := 2) (v := .int .i64 kd) (List.mem_cons_of_mem _ (List.mem_cons_of_mem _ (List.mem_cons_of_mem _ (List.mem_cons_of_mem _ (List.mem_cons_of_mem _ (List.mem_cons_of_mem _ (List.mem_cons_self ..))))))) rfl
    go_wp2_with fail
    refine (hpl _).mono ?_
    rintro e w16 ⟨rfl, hb⟩
    have Lw16 := Lib.hid (Lw8.out.bel hb)
    clear hb Lw8 f30 f31 f32 f33 f34 f35 f36 f37 f38
    have Lw16n := Lib.hid (Lw16.out.new 39 #[.int .i64 a, .int .i64 b])
    clear Lw16
    clear hpl
    have f39 := Lw16n.out.cell (i := 0) (v := .int .i64 re) (List.mem_cons_of_mem _ (List.mem_cons_of_mem _ (List.mem_cons_of_mem _ (List.mem_cons_of_mem _ (List.mem_cons_of_mem _ (List.mem_cons_of_mem _ (List.mem_cons_of_mem _ (List.mem_cons_self ..)))))))) rfl
    have f40 := Lw16n.out.cell (i := 1) (v := .int .i64 im) (List.mem_cons_of_mem _ (List.mem_cons_of_mem _ (List.mem_cons_of_mem _ (List.mem_cons_of_mem _ (List.mem_cons_of_mem _ (List.mem_cons_of_mem _ (List.mem_cons_of_mem _ (List.mem_cons_self ..)))))))) rfl
    have f41 := Lw16n.out.cell (i := 2) (v := .int .i64 kd) (List.mem_cons_of_mem _ (List.mem_cons_of_mem _ (List.mem_cons_of_mem _ (List.mem_cons_of_mem _ (List.mem_cons_of_mem _ (List.mem_cons_of_mem _ (List.mem_cons_of_mem _ (List.mem_cons_self ..)))))))) rfl
    cases hrb : rightB a b with
    | false =>
      rw [hrb] at hr Heb Hs1 Hs2 Hes Hb1 Hb2 Hb3 Hb4 Hb5 Hb6
      rw [Bool.false_and] at Heb Hs1 Hs2 Hes Hb1 Hb2 Hb3 Hb4 Hb5 Hb6
      clear HBL HST hrb
      obtain rfl : 10 = eb := gE_r.symm.trans Heb.out
      obtain rfl : 0 = b1 := gV_r.symm.trans Hb1.out
      obtain rfl : 0 = b2 := gV_r.symm.trans Hb2.out
      obtain rfl : 0 = b3 := gV_r.symm.trans Hb3.out
      obtain rfl : 0 = b4 := gV_r.symm.trans Hb4.out
      obtain rfl : 0 = b5 := gV_r.symm.trans Hb5.out
      obtain rfl : 0 = b6 := gV_r.symm.trans Hb6.out
      clear Heb Hb1 Hb2 Hb3 Hb4 Hb5 Hb6
      go_wp2_with fail
      refine (hr _).mono ?_
      rintro e w17 ⟨rfl, hb⟩
      have Lw17 := Lib.hid (Lw16n.out.bel hb)
      clear hb Lw16n f39 f40 f41
      have f42 := Lw17.out.cell (i := 0) (v := cx (wd false 0) (wd false 0)) (List.mem_cons_of_mem _ (List.mem_cons_of_mem _ (List.mem_cons_of_mem _ (List.mem_cons_self ..)))) rfl
      have f43 := Lw17.out.cell (i := 1) (v := cx (wd false 0) (wd false 0)) (List.mem_cons_of_mem _ (List.mem_cons_of_mem _ (List.mem_cons_of_mem _ (List.mem_cons_self ..)))) rfl
      have f44 := Lw17.out.cell (i := 2) (v := cx (wd false 0) (wd false 0)) (List.mem_cons_of_mem _ (List.mem_cons_of_mem _ (List.mem_cons_of_mem _ (List.mem_cons_self ..)))) rfl
      have f45 := Lw17.out.cell (i := 0) (v := .complex .f64 0 0) (List.mem_cons_of_mem _ (List.mem_cons_of_mem _ (List.mem_cons_self ..))) rfl
      have f46 := Lw17.out.cell (i := 1) (v := .complex .f64 0 0) (List.mem_cons_of_mem _ (List.mem_cons_of_mem _ (List.mem_cons_self ..))) rfl
      have f47 := Lw17.out.cell (i := 2) (v := .complex .f64 0 0) (List.mem_cons_of_mem _ (List.mem_cons_of_mem _ (List.mem_cons_self ..))) rfl
      have f48 := Lw17.out.cell (i := 0) (v := .int .i64 re) (List.mem_cons_of_mem _ (List.mem_cons_of_mem _ (List.mem_cons_of_mem _ (List.mem_cons_of_mem _ (List.mem_cons_of_mem _ (List.mem_cons_of_mem _ (List.mem_cons_of_mem _ (List.mem_cons_self ..)))))))) rfl
      have f49 := Lw17.out.cell (i := 1) (v := .int .i64 im) (List.mem_cons_of_mem _ (List.mem_cons_of_mem _ (List.mem_cons_of_mem _ (List.mem_cons_of_mem _ (List.mem_cons_of_mem _ (List.mem_cons_of_mem _ (List.mem_cons_of_mem _ (List.mem_cons_self ..)))))))) rfl
      have f50 := Lw17.out.cell (i := 2) (v := .int .i64 kd) (List.mem_cons_of_mem _ (List.mem_cons_of_mem _ (List.mem_cons_of_mem _ (List.mem_cons_of_mem _ (List.mem_cons_of_mem _ (List.mem_cons_of_mem _ (List.mem_cons_of_mem _ (List.mem_cons_self ..)))))))) rfl
      go_wp2_with fail
      refine (hr _).mono ?_
      rintro e w20 ⟨rfl, hb⟩
      have Lw20 := Lib.hid (Lw17.out.bel hb)
      clear hb Lw17 f42 f43 f44 f45 f46 f47 f48 f49 f50
      obtain rfl : 0 = s1 := gV_r.symm.trans Hs1.out
      obtain rfl : 0 = s2 := gV_r.symm.trans Hs2.out
      obtain rfl : 10 = es := gE_r.symm.trans Hes.out
      clear Hs1 Hs2 Hes
      go_wp2_with fail
      refine (awake_any _).mono ?_
      rintro e wz ⟨rfl, hb⟩
      have Lwz := Lib.hid (Lw20.out.bel hb)
      clear hb Lw20 
      go_wp2
      go_ret
      exact ⟨rfl, Lwz.out.below⟩
    | true =>
      rw [hrb] at hr Heb Hs1 Hs2 Hes Hb1 Hb2 Hb3 Hb4 Hb5 Hb6
      have HRB := Lib.hid hrb
      clear hrb
      obtain ⟨qb, hqb⟩ : ∃ q, decide (0 ≤ wt ∧ wt ≤ 16) = q := ⟨_, rfl⟩
      rw [hqb, Bool.true_and] at Heb Hb1 Hb2 Hb3 Hb4 Hb5 Hb6
      go_wp2_with fail
      refine (hr _).mono ?_
      rintro e w17 ⟨rfl, hb⟩
      have Lw17 := Lib.hid (Lw16n.out.bel hb)
      clear hb Lw16n f39 f40 f41
      have f42 := Lw17.out.cell (i := 3) (v := .int .i64 wt) (List.mem_cons_of_mem _ (List.mem_cons_of_mem _ (List.mem_cons_of_mem _ (List.mem_cons_of_mem _ (List.mem_cons_of_mem _ (List.mem_cons_of_mem _ (List.mem_cons_of_mem _ (List.mem_cons_self ..)))))))) rfl
      by_cases q0 : wt < 0
      · have dq0 : decide (wt < 0) = true := by simpa using q0
        obtain rfl : false = qb := by rw [← hqb]; simp; omega
        clear hqb q0 HBL
        obtain rfl : 10 = eb := gE_r.symm.trans Heb.out
        obtain rfl : 0 = b1 := gV_r.symm.trans Hb1.out
        obtain rfl : 0 = b2 := gV_r.symm.trans Hb2.out
        obtain rfl : 0 = b3 := gV_r.symm.trans Hb3.out
        obtain rfl : 0 = b4 := gV_r.symm.trans Hb4.out
        obtain rfl : 0 = b5 := gV_r.symm.trans Hb5.out
        obtain rfl : 0 = b6 := gV_r.symm.trans Hb6.out
        clear Heb Hb1 Hb2 Hb3 Hb4 Hb5 Hb6
        have f43 := Lw17.out.cell (i := 0) (v := cx (wd false 0) (wd false 0)) (List.mem_cons_of_mem _ (List.mem_cons_of_mem _ (List.mem_cons_of_mem _ (List.mem_cons_self ..)))) rfl
        have f44 := Lw17.out.cell (i := 1) (v := cx (wd false 0) (wd false 0)) (List.mem_cons_of_mem _ (List.mem_cons_of_mem _ (List.mem_cons_of_mem _ (List.mem_cons_self ..)))) rfl
        have f45 := Lw17.out.cell (i := 2) (v := cx (wd false 0) (wd false 0)) (List.mem_cons_of_mem _ (List.mem_cons_of_mem _ (List.mem_cons_of_mem _ (List.mem_cons_self ..)))) rfl
        have f46 := Lw17.out.cell (i := 0) (v := .complex .f64 0 0) (List.mem_cons_of_mem _ (List.mem_cons_of_mem _ (List.mem_cons_self ..))) rfl
        have f47 := Lw17.out.cell (i := 1) (v := .complex .f64 0 0) (List.mem_cons_of_mem _ (List.mem_cons_of_mem _ (List.mem_cons_self ..))) rfl
        have f48 := Lw17.out.cell (i := 2) (v := .complex .f64 0 0) (List.mem_cons_of_mem _ (List.mem_cons_of_mem _ (List.mem_cons_self ..))) rfl
        obtain ⟨qs, hqs⟩ : ∃ q, decide (0 ≤ mo ∧ mo < 1048576) = q := ⟨_, rfl⟩
        rw [hqs, Bool.true_and] at Hs1 Hs2 Hes
        have f49 := Lw17.out.cell (i := 0) (v := .int .i64 re) (List.mem_cons_of_mem _ (List.mem_cons_of_mem _ (List.mem_cons_of_mem _ (List.mem_cons_of_mem _ (List.mem_cons_of_mem _ (List.mem_cons_of_mem _ (List.mem_cons_of_mem _ (List.mem_cons_self ..)))))))) rfl
        have f50 := Lw17.out.cell (i := 1) (v := .int .i64 im) (List.mem_cons_of_mem _ (List.mem_cons_of_mem _ (List.mem_cons_of_mem _ (List.mem_cons_of_mem _ (List.mem_cons_of_mem _ (List.mem_cons_of_mem _ (List.mem_cons_of_mem _ (List.mem_cons_self ..)))))))) rfl
        have f51 := Lw17.out.cell (i := 2) (v := .int .i64 kd) (List.mem_cons_of_mem _ (List.mem_cons_of_mem _ (List.mem_cons_of_mem _ (List.mem_cons_of_mem _ (List.mem_cons_of_mem _ (List.mem_cons_of_mem _ (List.mem_cons_of_mem _ (List.mem_cons_self ..)))))))) rfl
        go_wp2_with fail
        refine (hr _).mono ?_
        rintro e w20 ⟨rfl, hb⟩
        have Lw20 := Lib.hid (Lw17.out.bel hb)
        clear hb Lw17 f42 f43 f44 f45 f46 f47 f48 f49 f50 f51
        clear hr
        have f52 := Lw20.out.cell (i := 4) (v := .int .i64 mo) (List.mem_cons_of_mem _ (List.mem_cons_of_mem _ (List.mem_cons_of_mem _ (List.mem_cons_of_mem _ (List.mem_cons_of_mem _ (List.mem_cons_of_mem _ (List.mem_cons_of_mem _ (List.mem_cons_self ..)))))))) rfl
        by_cases m0 : mo < 0
        · have dm0 : decide (mo < 0) = true := by simpa using m0
          obtain rfl : false = qs := by rw [← hqs]; simp; omega
          clear hqs m0
          obtain rfl : 0 = s1 := gV_r.symm.trans Hs1.out
          obtain rfl : 0 = s2 := gV_r.symm.trans Hs2.out
          obtain rfl : 10 = es := gE_r.symm.trans Hes.out
          clear Hs1 Hs2 Hes
          go_wp2_with fail
          refine (awake_any _).mono ?_
          rintro e wz ⟨rfl, hb⟩
          have Lwz := Lib.hid (Lw20.out.bel hb)
          clear hb Lw20 f52
          go_wp2
          go_ret
          exact ⟨rfl, Lwz.out.below⟩
        have dm0 : decide (mo < 0) = false := by simpa using m0
        by_cases m1 : 1048575 < mo
        · have dm1 : decide (1048575 < mo) = true := by simpa using m1
          obtain rfl : false = qs := by rw [← hqs]; simp; omega
          clear hqs m0 m1
          obtain rfl : 0 = s1 := gV_r.symm.trans Hs1.out
          obtain rfl : 0 = s2 := gV_r.symm.trans Hs2.out
          obtain rfl : 10 = es := gE_r.symm.trans Hes.out
          clear Hs1 Hs2 Hes
          go_wp2_with fail
          refine (awake_any _).mono ?_
          rintro e wz ⟨rfl, hb⟩
          have Lwz := Lib.hid (Lw20.out.bel hb)
          clear hb Lw20 f52
          go_wp2
          go_ret
          exact ⟨rfl, Lwz.out.below⟩
        have dm1 : decide (1048575 < mo) = false := by simpa using m1
        obtain rfl : true = qs := by rw [← hqs]; simp; omega
        have HMO : Hid (0 ≤ mo ∧ mo < 1048576) := Lib.hid (by omega)
        clear hqs m0 m1
        obtain rfl : cutF (a - R) mo = s1 := (gV_y right0).symm.trans Hs1.out
        obtain rfl : cutF (b - I) mo = s2 := (gV_y right0).symm.trans Hs2.out
        obtain rfl : 0 = es := (gE_y right0).symm.trans Hes.out
        obtain ⟨wr1, wr2, _, _, hIS⟩ := HST.out HRB.out HMO.out
        clear Hs1 Hs2 Hes HST
        go_wp2
        clear f52
        have LD20 := Lib.hid Lw20.out.drew
        clear Lw20
        have sv : Hid (∀ W, Below w20.drew.heap.size w20.drew W → Below w20.drew.heap.size w20.drew W ∧ W.cell? ⟨w16.heap.size, 0, none⟩ = some (.int .i64 a) ∧ W.cell? ⟨w16.heap.size, 1, none⟩ = some (.int .i64 b) ∧ W.cell? ⟨w2.heap.size, 0, none⟩ = some (.int .i64 R) ∧ W.cell? ⟨w2.heap.size, 1, none⟩ = some (.int .i64 I) ∧ W.cell? ⟨w.heap.size + 1, 4, none⟩ = some (.int .i64 mo)) := Lib.hid fun W hb => by
          have LL := LD20.out.bel hb
          exact ⟨hb, LL.cell (i := 0) (v := .int .i64 a) (List.mem_cons_self ..) rfl, LL.cell (i := 1) (v := .int .i64 b) (List.mem_cons_self ..) rfl, LL.cell (i := 0) (v := .int .i64 R) (List.mem_cons_of_mem _ (List.mem_cons_of_mem _ (List.mem_cons_of_mem _ (List.mem_cons_of_mem _ (List.mem_cons_of_mem _ (List.mem_cons_self ..)))))) rfl, LL.cell (i := 1) (v := .int .i64 I) (List.mem_cons_of_mem _ (List.mem_cons_of_mem _ (List.mem_cons_of_mem _ (List.mem_cons_of_mem _ (List.mem_cons_of_mem _ (List.mem_cons_self ..)))))) rfl, LL.cell (i := 4) (v := .int .i64 mo) (List.mem_cons_of_mem _ (List.mem_cons_of_mem _ (List.mem_cons_of_mem _ (List.mem_cons_of_mem _ (List.mem_cons_of_mem _ (List.mem_cons_of_mem _ (List.mem_cons_of_mem _ (List.mem_cons_self ..)))))))) rfl⟩
        have BK0 := Below.refl w20.drew.heap.size w20.drew
        go_region_held3 (fun W => Below w20.drew.heap.size w20.drew W ∧ W.cell? ⟨w16.heap.size, 0, none⟩ = some (.int .i64 a) ∧ W.cell? ⟨w16.heap.size, 1, none⟩ = some (.int .i64 b) ∧ W.cell? ⟨w2.heap.size, 0, none⟩ = some (.int .i64 R) ∧ W.cell? ⟨w2.heap.size, 1, none⟩ = some (.int .i64 I) ∧ W.cell? ⟨w.heap.size + 1, 4, none⟩ = some (.int .i64 mo))
          (first | (with_reducible exact sv.out _ BK0) | (with_reducible assumption) | (with_reducible exact sv.out _ (bt (And.left (by assumption)) hbw)))
          (first | (go_at_call 37; refine (cut_any _ _ HMO.out _).mono ?_; rintro e w_ ⟨rfl, rfl⟩) | (go_at_call 28; refine (hIS _).mono ?_; rintro e w_ ⟨rfl, hbw⟩) | (go_at_call 11; refine (awake_any _).mono ?_; rintro e w_ ⟨rfl, hbw⟩))
        rename_i hK
        have LZ := LD20.out.bel hK.1
        clear hK
        go_wp2
        go_ret
        exact ⟨rfl, LZ.below⟩
      have dq0 : decide (wt < 0) = false := by simpa using q0
      by_cases q1 : 16 < wt
      · have dq1 : decide (16 < wt) = true := by simpa using q1
        obtain rfl : false = qb := by rw [← hqb]; simp; omega
        clear hqb q0 q1 HBL
        obtain rfl : 10 = eb := gE_r.symm.trans Heb.out
        obtain rfl : 0 = b1 := gV_r.symm.trans Hb1.out
        obtain rfl : 0 = b2 := gV_r.symm.trans Hb2.out
        obtain rfl : 0 = b3 := gV_r.symm.trans Hb3.out
        obtain rfl : 0 = b4 := gV_r.symm.trans Hb4.out
        obtain rfl : 0 = b5 := gV_r.symm.trans Hb5.out
        obtain rfl : 0 = b6 := gV_r.symm.trans Hb6.out
        clear Heb Hb1 Hb2 Hb3 Hb4 Hb5 Hb6
        have f43 := Lw17.out.cell (i := 0) (v := cx (wd false 0) (wd false 0)) (List.mem_cons_of_mem _ (List.mem_cons_of_mem _ (List.mem_cons_of_mem _ (List.mem_cons_self ..)))) rfl
        have f44 := Lw17.out.cell (i := 1) (v := cx (wd false 0) (wd false 0)) (List.mem_cons_of_mem _ (List.mem_cons_of_mem _ (List.mem_cons_of_mem _ (List.mem_cons_self ..)))) rfl
        have f45 := Lw17.out.cell (i := 2) (v := cx (wd false 0) (wd false 0)) (List.mem_cons_of_mem _ (List.mem_cons_of_mem _ (List.mem_cons_of_mem _ (List.mem_cons_self ..)))) rfl
        have f46 := Lw17.out.cell (i := 0) (v := .complex .f64 0 0) (List.mem_cons_of_mem _ (List.mem_cons_of_mem _ (List.mem_cons_self ..))) rfl
        have f47 := Lw17.out.cell (i := 1) (v := .complex .f64 0 0) (List.mem_cons_of_mem _ (List.mem_cons_of_mem _ (List.mem_cons_self ..))) rfl
        have f48 := Lw17.out.cell (i := 2) (v := .complex .f64 0 0) (List.mem_cons_of_mem _ (List.mem_cons_of_mem _ (List.mem_cons_self ..))) rfl
        obtain ⟨qs, hqs⟩ : ∃ q, decide (0 ≤ mo ∧ mo < 1048576) = q := ⟨_, rfl⟩
        rw [hqs, Bool.true_and] at Hs1 Hs2 Hes
        have f49 := Lw17.out.cell (i := 0) (v := .int .i64 re) (List.mem_cons_of_mem _ (List.mem_cons_of_mem _ (List.mem_cons_of_mem _ (List.mem_cons_of_mem _ (List.mem_cons_of_mem _ (List.mem_cons_of_mem _ (List.mem_cons_of_mem _ (List.mem_cons_self ..)))))))) rfl
        have f50 := Lw17.out.cell (i := 1) (v := .int .i64 im) (List.mem_cons_of_mem _ (List.mem_cons_of_mem _ (List.mem_cons_of_mem _ (List.mem_cons_of_mem _ (List.mem_cons_of_mem _ (List.mem_cons_of_mem _ (List.mem_cons_of_mem _ (List.mem_cons_self ..)))))))) rfl
        have f51 := Lw17.out.cell (i := 2) (v := .int .i64 kd) (List.mem_cons_of_mem _ (List.mem_cons_of_mem _ (List.mem_cons_of_mem _ (List.mem_cons_of_mem _ (List.mem_cons_of_mem _ (List.mem_cons_of_mem _ (List.mem_cons_of_mem _ (List.mem_cons_self ..)))))))) rfl
        go_wp2_with fail
        refine (hr _).mono ?_
        rintro e w20 ⟨rfl, hb⟩
        have Lw20 := Lib.hid (Lw17.out.bel hb)
        clear hb Lw17 f42 f43 f44 f45 f46 f47 f48 f49 f50 f51
        clear hr
        have f52 := Lw20.out.cell (i := 4) (v := .int .i64 mo) (List.mem_cons_of_mem _ (List.mem_cons_of_mem _ (List.mem_cons_of_mem _ (List.mem_cons_of_mem _ (List.mem_cons_of_mem _ (List.mem_cons_of_mem _ (List.mem_cons_of_mem _ (List.mem_cons_self ..)))))))) rfl
        by_cases m0 : mo < 0
        · have dm0 : decide (mo < 0) = true := by simpa using m0
          obtain rfl : false = qs := by rw [← hqs]; simp; omega
          clear hqs m0
          obtain rfl : 0 = s1 := gV_r.symm.trans Hs1.out
          obtain rfl : 0 = s2 := gV_r.symm.trans Hs2.out
          obtain rfl : 10 = es := gE_r.symm.trans Hes.out
          clear Hs1 Hs2 Hes
          go_wp2_with fail
          refine (awake_any _).mono ?_
          rintro e wz ⟨rfl, hb⟩
          have Lwz := Lib.hid (Lw20.out.bel hb)
          clear hb Lw20 f52
          go_wp2
          go_ret
          exact ⟨rfl, Lwz.out.below⟩
        have dm0 : decide (mo < 0) = false := by simpa using m0
        by_cases m1 : 1048575 < mo
        · have dm1 : decide (1048575 < mo) = true := by simpa using m1
          obtain rfl : false = qs := by rw [← hqs]; simp; omega
          clear hqs m0 m1
          obtain rfl : 0 = s1 := gV_r.symm.trans Hs1.out
          obtain rfl : 0 = s2 := gV_r.symm.trans Hs2.out
          obtain rfl : 10 = es := gE_r.symm.trans Hes.out
          clear Hs1 Hs2 Hes
          go_wp2_with fail
          refine (awake_any _).mono ?_
          rintro e wz ⟨rfl, hb⟩
          have Lwz := Lib.hid (Lw20.out.bel hb)
          clear hb Lw20 f52
          go_wp2
          go_ret
          exact ⟨rfl, Lwz.out.below⟩
        have dm1 : decide (1048575 < mo) = false := by simpa using m1
        obtain rfl : true = qs := by rw [← hqs]; simp; omega
        have HMO : Hid (0 ≤ mo ∧ mo < 1048576) := Lib.hid (by omega)
        clear hqs m0 m1
        obtain rfl : cutF (a - R) mo = s1 := (gV_y right0).symm.trans Hs1.out
        obtain rfl : cutF (b - I) mo = s2 := (gV_y right0).symm.trans Hs2.out
        obtain rfl : 0 = es := (gE_y right0).symm.trans Hes.out
        obtain ⟨wr1, wr2, _, _, hIS⟩ := HST.out HRB.out HMO.out
        clear Hs1 Hs2 Hes HST
        go_wp2
        clear f52
        have LD20 := Lib.hid Lw20.out.drew
        clear Lw20
        have sv : Hid (∀ W, Below w20.drew.heap.size w20.drew W → Below w20.drew.heap.size w20.drew W ∧ W.cell? ⟨w16.heap.size, 0, none⟩ = some (.int .i64 a) ∧ W.cell? ⟨w16.heap.size, 1, none⟩ = some (.int .i64 b) ∧ W.cell? ⟨w2.heap.size, 0, none⟩ = some (.int .i64 R) ∧ W.cell? ⟨w2.heap.size, 1, none⟩ = some (.int .i64 I) ∧ W.cell? ⟨w.heap.size + 1, 4, none⟩ = some (.int .i64 mo)) := Lib.hid fun W hb => by
          have LL := LD20.out.bel hb
          exact ⟨hb, LL.cell (i := 0) (v := .int .i64 a) (List.mem_cons_self ..) rfl, LL.cell (i := 1) (v := .int .i64 b) (List.mem_cons_self ..) rfl, LL.cell (i := 0) (v := .int .i64 R) (List.mem_cons_of_mem _ (List.mem_cons_of_mem _ (List.mem_cons_of_mem _ (List.mem_cons_of_mem _ (List.mem_cons_of_mem _ (List.mem_cons_self ..)))))) rfl, LL.cell (i := 1) (v := .int .i64 I) (List.mem_cons_of_mem _ (List.mem_cons_of_mem _ (List.mem_cons_of_mem _ (List.mem_cons_of_mem _ (List.mem_cons_of_mem _ (List.mem_cons_self ..)))))) rfl, LL.cell (i := 4) (v := .int .i64 mo) (List.mem_cons_of_mem _ (List.mem_cons_of_mem _ (List.mem_cons_of_mem _ (List.mem_cons_of_mem _ (List.mem_cons_of_mem _ (List.mem_cons_of_mem _ (List.mem_cons_of_mem _ (List.mem_cons_self ..)))))))) rfl⟩
        have BK0 := Below.refl w20.drew.heap.size w20.drew
        go_region_held3 (fun W => Below w20.drew.heap.size w20.drew W ∧ W.cell? ⟨w16.heap.size, 0, none⟩ = some (.int .i64 a) ∧ W.cell? ⟨w16.heap.size, 1, none⟩ = some (.int .i64 b) ∧ W.cell? ⟨w2.heap.size, 0, none⟩ = some (.int .i64 R) ∧ W.cell? ⟨w2.heap.size, 1, none⟩ = some (.int .i64 I) ∧ W.cell? ⟨w.heap.size + 1, 4, none⟩ = some (.int .i64 mo))
          (first | (with_reducible exact sv.out _ BK0) | (with_reducible assumption) | (with_reducible exact sv.out _ (bt (And.left (by assumption)) hbw)))
          (first | (go_at_call 37; refine (cut_any _ _ HMO.out _).mono ?_; rintro e w_ ⟨rfl, rfl⟩) | (go_at_call 28; refine (hIS _).mono ?_; rintro e w_ ⟨rfl, hbw⟩) | (go_at_call 11; refine (awake_any _).mono ?_; rintro e w_ ⟨rfl, hbw⟩))
        rename_i hK
        have LZ := LD20.out.bel hK.1
        clear hK
        go_wp2
        go_ret
        exact ⟨rfl, LZ.below⟩
      have dq1 : decide (16 < wt) = false := by simpa using q1
      obtain rfl : true = qb := by rw [← hqb]; simp; omega
      have HWT : Hid (0 ≤ wt ∧ wt ≤ 16) := Lib.hid (by omega)
      clear hqb q0 q1
      obtain rfl : partF R a wt = b1 := (gV_y right0).symm.trans Hb1.out
      obtain rfl : partF I b wt = b2 := (gV_y right0).symm.trans Hb2.out
      obtain rfl : S = b3 := (gV_y right0).symm.trans Hb3.out
      obtain rfl : J = b4 := (gV_y right0).symm.trans Hb4.out
      obtain rfl : N = b5 := (gV_y right0).symm.trans Hb5.out
      obtain rfl : M = b6 := (gV_y right0).symm.trans Hb6.out
      obtain rfl : 0 = eb := (gE_y right0).symm.trans Heb.out
      clear Heb Hb1 Hb2 Hb3 Hb4 Hb5 Hb6
      obtain ⟨hP1, hP2, hIP⟩ := HBL.out HRB.out HWT.out
      clear HBL
      have f43 := Lw17.out.cell (i := 0) (v := .int .i64 R) (List.mem_cons_of_mem _ (List.mem_cons_of_mem _ (List.mem_cons_of_mem _ (List.mem_cons_of_mem _ (List.mem_cons_of_mem _ (List.mem_cons_self ..)))))) rfl
      have f44 := Lw17.out.cell (i := 1) (v := .int .i64 I) (List.mem_cons_of_mem _ (List.mem_cons_of_mem _ (List.mem_cons_of_mem _ (List.mem_cons_of_mem _ (List.mem_cons_of_mem _ (List.mem_cons_self ..)))))) rfl
      have f45 := Lw17.out.cell (i := 2) (v := .int .i64 S) (List.mem_cons_of_mem _ (List.mem_cons_of_mem _ (List.mem_cons_of_mem _ (List.mem_cons_of_mem _ (List.mem_cons_of_mem _ (List.mem_cons_self ..)))))) rfl
      have f46 := Lw17.out.cell (i := 3) (v := .int .i64 J) (List.mem_cons_of_mem _ (List.mem_cons_of_mem _ (List.mem_cons_of_mem _ (List.mem_cons_of_mem _ (List.mem_cons_of_mem _ (List.mem_cons_self ..)))))) rfl
      have f47 := Lw17.out.cell (i := 4) (v := .int .i64 N) (List.mem_cons_of_mem _ (List.mem_cons_of_mem _ (List.mem_cons_of_mem _ (List.mem_cons_of_mem _ (List.mem_cons_of_mem _ (List.mem_cons_self ..)))))) rfl
      have f48 := Lw17.out.cell (i := 5) (v := .int .i64 M) (List.mem_cons_of_mem _ (List.mem_cons_of_mem _ (List.mem_cons_of_mem _ (List.mem_cons_of_mem _ (List.mem_cons_of_mem _ (List.mem_cons_self ..)))))) rfl
      have NE17 := Lib.hid Lw17.out.ne
      have GE17 := Lib.hid Lw17.out.below.size
      have L17 := Lib.hid (Lw17.out.new 48 #[.int .i64 R, .int .i64 I, .int .i64 S, .int .i64 J, .int .i64 N, .int .i64 M])
      obtain ⟨W17, hW17⟩ : ∃ x, w17.alloc (.cells #[.int .i64 R, .int .i64 I, .int .i64 S, .int .i64 J, .int .i64 N, .int .i64 M] 48) = x := ⟨_, rfl⟩
      rw [hW17] at L17
      go_wp2
      clear hW17
      clear f42 f43 f44 f45 f46 f47 f48
      clear Lw17
      have sv : Hid (∀ W, LW w 0 [(w16.heap.size, 39, #[.int .i64 a, .int .i64 b]), (w6.heap.size + 1, 48, #[.int .i64 (R + S), .int .i64 (I + J), .int .i64 S, .int .i64 J, .int .i64 N, .int .i64 M]), (w6.heap.size, 45, #[.complex .f64 0 0, .complex .f64 0 0, .complex .f64 0 0]), (g, 45, #[cx (wd false (partF R a wt)) (wd false (partF I b wt)), cx (wd false S) (wd false J), cx (wd false N) (wd false M)]), (w3.heap.size, 45, #[cx (wd false 0) (wd false 0), cx (wd false 0) (wd false 0), cx (wd false 0) (wd false 0)]), (w2.heap.size, 48, #[.int .i64 R, .int .i64 I, .int .i64 S, .int .i64 J, .int .i64 N, .int .i64 M]), (w1.heap.size, 45, #[cx x1 y1, cx x2 y2, cx x3 y3]), (w.heap.size + 1, 67, #[.int .i64 re, .int .i64 im, .int .i64 kd, .int .i64 wt, .int .i64 mo]), (w.heap.size, 43, #[.int .i64 re0, .int .i64 im0, .int .i64 k0, .int .i64 re1, .int .i64 im1, .int .i64 k1, .int .i64 re2, .int .i64 im2, .int .i64 k2])] W ∧ RR w17.heap.size 6 48 W → (LW w 0 [(w16.heap.size, 39, #[.int .i64 a, .int .i64 b]), (w6.heap.size + 1, 48, #[.int .i64 (R + S), .int .i64 (I + J), .int .i64 S, .int .i64 J, .int .i64 N, .int .i64 M]), (w6.heap.size, 45, #[.complex .f64 0 0, .complex .f64 0 0, .complex .f64 0 0]), (g, 45, #[cx (wd false (partF R a wt)) (wd false (partF I b wt)), cx (wd false S) (wd false J), cx (wd false N) (wd false M)]), (w3.heap.size, 45, #[cx (wd false 0) (wd false 0), cx (wd false 0) (wd false 0), cx (wd false 0) (wd false 0)]), (w2.heap.size, 48, #[.int .i64 R, .int .i64 I, .int .i64 S, .int .i64 J, .int .i64 N, .int .i64 M]), (w1.heap.size, 45, #[cx x1 y1, cx x2 y2, cx x3 y3]), (w.heap.size + 1, 67, #[.int .i64 re, .int .i64 im, .int .i64 kd, .int .i64 wt, .int .i64 mo]), (w.heap.size, 43, #[.int .i64 re0, .int .i64 im0, .int .i64 k0, .int .i64 re1, .int .i64 im1, .int .i64 k1, .int .i64 re2, .int .i64 im2, .int .i64 k2])] W ∧ RR w17.heap.size 6 48 W) ∧ W.cell? ⟨w2.heap.size, 0, none⟩ = some (.int .i64 R) ∧ W.cell? ⟨w2.heap.size, 1, none⟩ = some (.int .i64 I) ∧ W.cell? ⟨w16.heap.size, 0, none⟩ = some (.int .i64 a) ∧ W.cell? ⟨w16.heap.size, 1, none⟩ = some (.int .i64 b) ∧ W.cell? ⟨w.heap.size + 1, 3, none⟩ = some (.int .i64 wt) ∧ W.cell? ⟨w17.heap.size, 0, none⟩ = some (gcell w17.heap.size W 0) ∧ W.cell? ⟨w17.heap.size, 1, none⟩ = some (gcell w17.heap.size W 1) ∧ W.frozen? ⟨w17.heap.size, 0, none⟩ = false ∧ W.frozen? ⟨w17.heap.size, 1, none⟩ = false) := Lib.hid fun W hb => ⟨hb, hb.1.cell (i := 0) (v := .int .i64 R) (List.mem_cons_of_mem _ (List.mem_cons_of_mem _ (List.mem_cons_of_mem _ (List.mem_cons_of_mem _ (List.mem_cons_of_mem _ (List.mem_cons_self ..)))))) rfl, hb.1.cell (i := 1) (v := .int .i64 I) (List.mem_cons_of_mem _ (List.mem_cons_of_mem _ (List.mem_cons_of_mem _ (List.mem_cons_of_mem _ (List.mem_cons_of_mem _ (List.mem_cons_self ..)))))) rfl, hb.1.cell (i := 0) (v := .int .i64 a) (List.mem_cons_self ..) rfl, hb.1.cell (i := 1) (v := .int .i64 b) (List.mem_cons_self ..) rfl, hb.1.cell (i := 3) (v := .int .i64 wt) (List.mem_cons_of_mem _ (List.mem_cons_of_mem _ (List.mem_cons_of_mem _ (List.mem_cons_of_mem _ (List.mem_cons_of_mem _ (List.mem_cons_of_mem _ (List.mem_cons_of_mem _ (List.mem_cons_self ..)))))))) rfl, hb.2.cell (by decide), hb.2.cell (by decide), hb.2.frozen _, hb.2.frozen _⟩
      have sw : Hid (∀ W i v, LW w 0 [(w16.heap.size, 39, #[.int .i64 a, .int .i64 b]), (w6.heap.size + 1, 48, #[.int .i64 (R + S), .int .i64 (I + J), .int .i64 S, .int .i64 J, .int .i64 N, .int .i64 M]), (w6.heap.size, 45, #[.complex .f64 0 0, .complex .f64 0 0, .complex .f64 0 0]), (g, 45, #[cx (wd false (partF R a wt)) (wd false (partF I b wt)), cx (wd false S) (wd false J), cx (wd false N) (wd false M)]), (w3.heap.size, 45, #[cx (wd false 0) (wd false 0), cx (wd false 0) (wd false 0), cx (wd false 0) (wd false 0)]), (w2.heap.size, 48, #[.int .i64 R, .int .i64 I, .int .i64 S, .int .i64 J, .int .i64 N, .int .i64 M]), (w1.heap.size, 45, #[cx x1 y1, cx x2 y2, cx x3 y3]), (w.heap.size + 1, 67, #[.int .i64 re, .int .i64 im, .int .i64 kd, .int .i64 wt, .int .i64 mo]), (w.heap.size, 43, #[.int .i64 re0, .int .i64 im0, .int .i64 k0, .int .i64 re1, .int .i64 im1, .int .i64 k1, .int .i64 re2, .int .i64 im2, .int .i64 k2])] W ∧ RR w17.heap.size 6 48 W → LW w 0 [(w16.heap.size, 39, #[.int .i64 a, .int .i64 b]), (w6.heap.size + 1, 48, #[.int .i64 (R + S), .int .i64 (I + J), .int .i64 S, .int .i64 J, .int .i64 N, .int .i64 M]), (w6.heap.size, 45, #[.complex .f64 0 0, .complex .f64 0 0, .complex .f64 0 0]), (g, 45, #[cx (wd false (partF R a wt)) (wd false (partF I b wt)), cx (wd false S) (wd false J), cx (wd false N) (wd false M)]), (w3.heap.size, 45, #[cx (wd false 0) (wd false 0), cx (wd false 0) (wd false 0), cx (wd false 0) (wd false 0)]), (w2.heap.size, 48, #[.int .i64 R, .int .i64 I, .int .i64 S, .int .i64 J, .int .i64 N, .int .i64 M]), (w1.heap.size, 45, #[cx x1 y1, cx x2 y2, cx x3 y3]), (w.heap.size + 1, 67, #[.int .i64 re, .int .i64 im, .int .i64 kd, .int .i64 wt, .int .i64 mo]), (w.heap.size, 43, #[.int .i64 re0, .int .i64 im0, .int .i64 k0, .int .i64 re1, .int .i64 im1, .int .i64 k1, .int .i64 re2, .int .i64 im2, .int .i64 k2])] (W.setCell ⟨w17.heap.size, i, none⟩ v) ∧ RR w17.heap.size 6 48 (W.setCell ⟨w17.heap.size, i, none⟩ v)) := Lib.hid fun W i v hb => ⟨hb.1.setOther NE17.out GE17.out v, hb.2.set i v⟩
      have BK1 : LW w 0 [(w16.heap.size, 39, #[.int .i64 a, .int .i64 b]), (w6.heap.size + 1, 48, #[.int .i64 (R + S), .int .i64 (I + J), .int .i64 S, .int .i64 J, .int .i64 N, .int .i64 M]), (w6.heap.size, 45, #[.complex .f64 0 0, .complex .f64 0 0, .complex .f64 0 0]), (g, 45, #[cx (wd false (partF R a wt)) (wd false (partF I b wt)), cx (wd false S) (wd false J), cx (wd false N) (wd false M)]), (w3.heap.size, 45, #[cx (wd false 0) (wd false 0), cx (wd false 0) (wd false 0), cx (wd false 0) (wd false 0)]), (w2.heap.size, 48, #[.int .i64 R, .int .i64 I, .int .i64 S, .int .i64 J, .int .i64 N, .int .i64 M]), (w1.heap.size, 45, #[cx x1 y1, cx x2 y2, cx x3 y3]), (w.heap.size + 1, 67, #[.int .i64 re, .int .i64 im, .int .i64 kd, .int .i64 wt, .int .i64 mo]), (w.heap.size, 43, #[.int .i64 re0, .int .i64 im0, .int .i64 k0, .int .i64 re1, .int .i64 im1, .int .i64 k1, .int .i64 re2, .int .i64 im2, .int .i64 k2])] W17 ∧ RR w17.heap.size 6 48 W17 := ⟨LW.tail L17.out, ⟨_, rfl, L17.out.row (List.mem_cons_self ..)⟩⟩
      have sd : Hid (∀ W, LW w 0 [(w16.heap.size, 39, #[.int .i64 a, .int .i64 b]), (w6.heap.size + 1, 48, #[.int .i64 (R + S), .int .i64 (I + J), .int .i64 S, .int .i64 J, .int .i64 N, .int .i64 M]), (w6.heap.size, 45, #[.complex .f64 0 0, .complex .f64 0 0, .complex .f64 0 0]), (g, 45, #[cx (wd false (partF R a wt)) (wd false (partF I b wt)), cx (wd false S) (wd false J), cx (wd false N) (wd false M)]), (w3.heap.size, 45, #[cx (wd false 0) (wd false 0), cx (wd false 0) (wd false 0), cx (wd false 0) (wd false 0)]), (w2.heap.size, 48, #[.int .i64 R, .int .i64 I, .int .i64 S, .int .i64 J, .int .i64 N, .int .i64 M]), (w1.heap.size, 45, #[cx x1 y1, cx x2 y2, cx x3 y3]), (w.heap.size + 1, 67, #[.int .i64 re, .int .i64 im, .int .i64 kd, .int .i64 wt, .int .i64 mo]), (w.heap.size, 43, #[.int .i64 re0, .int .i64 im0, .int .i64 k0, .int .i64 re1, .int .i64 im1, .int .i64 k1, .int .i64 re2, .int .i64 im2, .int .i64 k2])] W ∧ RR w17.heap.size 6 48 W → LW w 0 [(w16.heap.size, 39, #[.int .i64 a, .int .i64 b]), (w6.heap.size + 1, 48, #[.int .i64 (R + S), .int .i64 (I + J), .int .i64 S, .int .i64 J, .int .i64 N, .int .i64 M]), (w6.heap.size, 45, #[.complex .f64 0 0, .complex .f64 0 0, .complex .f64 0 0]), (g, 45, #[cx (wd false (partF R a wt)) (wd false (partF I b wt)), cx (wd false S) (wd false J), cx (wd false N) (wd false M)]), (w3.heap.size, 45, #[cx (wd false 0) (wd false 0), cx (wd false 0) (wd false 0), cx (wd false 0) (wd false 0)]), (w2.heap.size, 48, #[.int .i64 R, .int .i64 I, .int .i64 S, .int .i64 J, .int .i64 N, .int .i64 M]), (w1.heap.size, 45, #[cx x1 y1, cx x2 y2, cx x3 y3]), (w.heap.size + 1, 67, #[.int .i64 re, .int .i64 im, .int .i64 kd, .int .i64 wt, .int .i64 mo]), (w.heap.size, 43, #[.int .i64 re0, .int .i64 im0, .int .i64 k0, .int .i64 re1, .int .i64 im1, .int .i64 k1, .int .i64 re2, .int .i64 im2, .int .i64 k2])] W.drew ∧ RR w17.heap.size 6 48 W.drew) := Lib.hid fun W hb => ⟨hb.1.drew, hb.2⟩
      have BKZ := sv.out _ (sd.out _ BK1)
      have t0 := L17.out.cell (i := 0) (v := .int .i64 R) (List.mem_cons_self ..) rfl
      have t1 := L17.out.cell (i := 1) (v := .int .i64 I) (List.mem_cons_self ..) rfl
      have t2 := L17.out.frozen (i := 0) (List.mem_cons_self ..)
      have t3 := L17.out.frozen (i := 1) (List.mem_cons_self ..)
      go_region_held3 (fun W => (LW w 0 [(w16.heap.size, 39, #[.int .i64 a, .int .i64 b]), (w6.heap.size + 1, 48, #[.int .i64 (R + S), .int .i64 (I + J), .int .i64 S, .int .i64 J, .int .i64 N, .int .i64 M]), (w6.heap.size, 45, #[.complex .f64 0 0, .complex .f64 0 0, .complex .f64 0 0]), (g, 45, #[cx (wd false (partF R a wt)) (wd false (partF I b wt)), cx (wd false S) (wd false J), cx (wd false N) (wd false M)]), (w3.heap.size, 45, #[cx (wd false 0) (wd false 0), cx (wd false 0) (wd false 0), cx (wd false 0) (wd false 0)]), (w2.heap.size, 48, #[.int .i64 R, .int .i64 I, .int .i64 S, .int .i64 J, .int .i64 N, .int .i64 M]), (w1.heap.size, 45, #[cx x1 y1, cx x2 y2, cx x3 y3]), (w.heap.size + 1, 67, #[.int .i64 re, .int .i64 im, .int .i64 kd, .int .i64 wt, .int .i64 mo]), (w.heap.size, 43, #[.int .i64 re0, .int .i64 im0, .int .i64 k0, .int .i64 re1, .int .i64 im1, .int .i64 k1, .int .i64 re2, .int .i64 im2, .int .i64 k2])] W ∧ RR w17.heap.size 6 48 W) ∧ W.cell? ⟨w2.heap.size, 0, none⟩ = some (.int .i64 R) ∧ W.cell? ⟨w2.heap.size, 1, none⟩ = some (.int .i64 I) ∧ W.cell? ⟨w16.heap.size, 0, none⟩ = some (.int .i64 a) ∧ W.cell? ⟨w16.heap.size, 1, none⟩ = some (.int .i64 b) ∧ W.cell? ⟨w.heap.size + 1, 3, none⟩ = some (.int .i64 wt) ∧ W.cell? ⟨w17.heap.size, 0, none⟩ = some (gcell w17.heap.size W 0) ∧ W.cell? ⟨w17.heap.size, 1, none⟩ = some (gcell w17.heap.size W 1) ∧ W.frozen? ⟨w17.heap.size, 0, none⟩ = false ∧ W.frozen? ⟨w17.heap.size, 1, none⟩ = false)
        (first | (with_reducible exact BKZ) | (with_reducible assumption) | (with_reducible exact sv.out _ (sd.out _ (sw.out _ _ _ (sw.out _ _ _ BK1)))))
        (first | (go_at_call 36; refine (part_any _ _ _ (by first | exact (HB1.out HRB.out).1 | exact (HB1.out HRB.out).2.1) (by first | exact (HB1.out HRB.out).2.2.1 | exact (HB1.out HRB.out).2.2.2) HWT.out _).mono ?_; rintro e w18 ⟨rfl, rfl⟩))
      rename_i hK
      clear hK BK1 BKZ sv sw sd t0 t1 t2 t3
      have L18 : Hid (LW w 0 [(w17.heap.size, 48, #[.int .i64 (partF R a wt), .int .i64 (partF I b wt), .int .i64 S, .int .i64 J, .int .i64 N, .int .i64 M]), (w16.heap.size, 39, #[.int .i64 a, .int .i64 b]), (w6.heap.size + 1, 48, #[.int .i64 (R + S), .int .i64 (I + J), .int .i64 S, .int .i64 J, .int .i64 N, .int .i64 M]), (w6.heap.size, 45, #[.complex .f64 0 0, .complex .f64 0 0, .complex .f64 0 0]), (g, 45, #[cx (wd false (partF R a wt)) (wd false (partF I b wt)), cx (wd false S) (wd false J), cx (wd false N) (wd false M)]), (w3.heap.size, 45, #[cx (wd false 0) (wd false 0), cx (wd false 0) (wd false 0), cx (wd false 0) (wd false 0)]), (w2.heap.size, 48, #[.int .i64 R, .int .i64 I, .int .i64 S, .int .i64 J, .int .i64 N, .int .i64 M]), (w1.heap.size, 45, #[cx x1 y1, cx x2 y2, cx x3 y3]), (w.heap.size + 1, 67, #[.int .i64 re, .int .i64 im, .int .i64 kd, .int .i64 wt, .int .i64 mo]), (w.heap.size, 43, #[.int .i64 re0, .int .i64 im0, .int .i64 k0, .int .i64 re1, .int .i64 im1, .int .i64 k1, .int .i64 re2, .int .i64 im2, .int .i64 k2])] ((W17.setCell ⟨w17.heap.size, 0, none⟩ (.int .i64 (partF R a wt))).setCell ⟨w17.heap.size, 1, none⟩ (.int .i64 (partF I b wt))).drew) := Lib.hid (((L17.out.setCell (i := 0) NE17.out GE17.out (.int .i64 (partF R a wt))).setCell (i := 1) NE17.out GE17.out (.int .i64 (partF I b wt))).drew)
      clear L17 NE17 GE17
      have f49 := L18.out.cell (i := 0) (v := cx (wd false (partF R a wt)) (wd false (partF I b wt))) (List.mem_cons_of_mem _ (List.mem_cons_of_mem _ (List.mem_cons_of_mem _ (List.mem_cons_of_mem _ (List.mem_cons_self ..))))) rfl
      have f50 := L18.out.cell (i := 1) (v := cx (wd false S) (wd false J)) (List.mem_cons_of_mem _ (List.mem_cons_of_mem _ (List.mem_cons_of_mem _ (List.mem_cons_of_mem _ (List.mem_cons_self ..))))) rfl
      have f51 := L18.out.cell (i := 2) (v := cx (wd false N) (wd false M)) (List.mem_cons_of_mem _ (List.mem_cons_of_mem _ (List.mem_cons_of_mem _ (List.mem_cons_of_mem _ (List.mem_cons_self ..))))) rfl
      have f52 := L18.out.cell (i := 0) (v := .int .i64 (partF R a wt)) (List.mem_cons_self ..) rfl
      have f53 := L18.out.cell (i := 1) (v := .int .i64 (partF I b wt)) (List.mem_cons_self ..) rfl
      have f54 := L18.out.cell (i := 2) (v := .int .i64 S) (List.mem_cons_self ..) rfl
      have f55 := L18.out.cell (i := 3) (v := .int .i64 J) (List.mem_cons_self ..) rfl
      have f56 := L18.out.cell (i := 4) (v := .int .i64 N) (List.mem_cons_self ..) rfl
      have f57 := L18.out.cell (i := 5) (v := .int .i64 M) (List.mem_cons_self ..) rfl
      go_wp2_with fail
      refine (hIP _).mono ?_
      rintro e w19 ⟨rfl, hb⟩
      have Lw19 := Lib.hid (L18.out.bel hb)
      clear hb L18 f49 f50 f51 f52 f53 f54 f55 f56 f57
      clear hIP hP1 hP2
      obtain ⟨qs, hqs⟩ : ∃ q, decide (0 ≤ mo ∧ mo < 1048576) = q := ⟨_, rfl⟩
      rw [hqs, Bool.true_and] at Hs1 Hs2 Hes
      have f58 := Lw19.out.cell (i := 0) (v := .int .i64 re) (List.mem_cons_of_mem _ (List.mem_cons_of_mem _ (List.mem_cons_of_mem _ (List.mem_cons_of_mem _ (List.mem_cons_of_mem _ (List.mem_cons_of_mem _ (List.mem_cons_of_mem _ (List.mem_cons_of_mem _ (List.mem_cons_self ..))))))))) rfl
      have f59 := Lw19.out.cell (i := 1) (v := .int .i64 im) (List.mem_cons_of_mem _ (List.mem_cons_of_mem _ (List.mem_cons_of_mem _ (List.mem_cons_of_mem _ (List.mem_cons_of_mem _ (List.mem_cons_of_mem _ (List.mem_cons_of_mem _ (List.mem_cons_of_mem _ (List.mem_cons_self ..))))))))) rfl
      have f60 := Lw19.out.cell (i := 2) (v := .int .i64 kd) (List.mem_cons_of_mem _ (List.mem_cons_of_mem _ (List.mem_cons_of_mem _ (List.mem_cons_of_mem _ (List.mem_cons_of_mem _ (List.mem_cons_of_mem _ (List.mem_cons_of_mem _ (List.mem_cons_of_mem _ (List.mem_cons_self ..))))))))) rfl
      go_wp2_with fail
      refine (hr _).mono ?_
      rintro e w20 ⟨rfl, hb⟩
      have Lw20 := Lib.hid (Lw19.out.bel hb)
      clear hb Lw19 f58 f59 f60
      clear hr
      have f61 := Lw20.out.cell (i := 4) (v := .int .i64 mo) (List.mem_cons_of_mem _ (List.mem_cons_of_mem _ (List.mem_cons_of_mem _ (List.mem_cons_of_mem _ (List.mem_cons_of_mem _ (List.mem_cons_of_mem _ (List.mem_cons_of_mem _ (List.mem_cons_of_mem _ (List.mem_cons_self ..))))))))) rfl
      by_cases m0 : mo < 0
      · have dm0 : decide (mo < 0) = true := by simpa using m0
        obtain rfl : false = qs := by rw [← hqs]; simp; omega
        clear hqs m0
        obtain rfl : 0 = s1 := gV_r.symm.trans Hs1.out
        obtain rfl : 0 = s2 := gV_r.symm.trans Hs2.out
        obtain rfl : 10 = es := gE_r.symm.trans Hes.out
        clear Hs1 Hs2 Hes
        go_wp2_with fail
        refine (awake_any _).mono ?_
        rintro e wz ⟨rfl, hb⟩
        have Lwz := Lib.hid (Lw20.out.bel hb)
        clear hb Lw20 f61
        go_wp2
        go_ret
        exact ⟨rfl, Lwz.out.below⟩
      have dm0 : decide (mo < 0) = false := by simpa using m0
      by_cases m1 : 1048575 < mo
      · have dm1 : decide (1048575 < mo) = true := by simpa using m1
        obtain rfl : false = qs := by rw [← hqs]; simp; omega
        clear hqs m0 m1
        obtain rfl : 0 = s1 := gV_r.symm.trans Hs1.out
        obtain rfl : 0 = s2 := gV_r.symm.trans Hs2.out
        obtain rfl : 10 = es := gE_r.symm.trans Hes.out
        clear Hs1 Hs2 Hes
        go_wp2_with fail
        refine (awake_any _).mono ?_
        rintro e wz ⟨rfl, hb⟩
        have Lwz := Lib.hid (Lw20.out.bel hb)
        clear hb Lw20 f61
        go_wp2
        go_ret
        exact ⟨rfl, Lwz.out.below⟩
      have dm1 : decide (1048575 < mo) = false := by simpa using m1
      obtain rfl : true = qs := by rw [← hqs]; simp; omega
      have HMO : Hid (0 ≤ mo ∧ mo < 1048576) := Lib.hid (by omega)
      clear hqs m0 m1
      obtain rfl : cutF (a - R) mo = s1 := (gV_y right0).symm.trans Hs1.out
      obtain rfl : cutF (b - I) mo = s2 := (gV_y right0).symm.trans Hs2.out
      obtain rfl : 0 = es := (gE_y right0).symm.trans Hes.out
      obtain ⟨wr1, wr2, _, _, hIS⟩ := HST.out HRB.out HMO.out
      clear Hs1 Hs2 Hes HST
      go_wp2
      clear f61
      have LD20 := Lib.hid Lw20.out.drew
      clear Lw20
      have sv : Hid (∀ W, Below w20.drew.heap.size w20.drew W → Below w20.drew.heap.size w20.drew W ∧ W.cell? ⟨w16.heap.size, 0, none⟩ = some (.int .i64 a) ∧ W.cell? ⟨w16.heap.size, 1, none⟩ = some (.int .i64 b) ∧ W.cell? ⟨w2.heap.size, 0, none⟩ = some (.int .i64 R) ∧ W.cell? ⟨w2.heap.size, 1, none⟩ = some (.int .i64 I) ∧ W.cell? ⟨w.heap.size + 1, 4, none⟩ = some (.int .i64 mo)) := Lib.hid fun W hb => by
        have LL := LD20.out.bel hb
        exact ⟨hb, LL.cell (i := 0) (v := .int .i64 a) (List.mem_cons_of_mem _ (List.mem_cons_self ..)) rfl, LL.cell (i := 1) (v := .int .i64 b) (List.mem_cons_of_mem _ (List.mem_cons_self ..)) rfl, LL.cell (i := 0) (v := .int .i64 R) (List.mem_cons_of_mem _ (List.mem_cons_of_mem _ (List.mem_cons_of_mem _ (List.mem_cons_of_mem _ (List.mem_cons_of_mem _ (List.mem_cons_of_mem _ (List.mem_cons_self ..))))))) rfl, LL.cell (i := 1) (v := .int .i64 I) (List.mem_cons_of_mem _ (List.mem_cons_of_mem _ (List.mem_cons_of_mem _ (List.mem_cons_of_mem _ (List.mem_cons_of_mem _ (List.mem_cons_of_mem _ (List.mem_cons_self ..))))))) rfl, LL.cell (i := 4) (v := .int .i64 mo) (List.mem_cons_of_mem _ (List.mem_cons_of_mem _ (List.mem_cons_of_mem _ (List.mem_cons_of_mem _ (List.mem_cons_of_mem _ (List.mem_cons_of_mem _ (List.mem_cons_of_mem _ (List.mem_cons_of_mem _ (List.mem_cons_self ..))))))))) rfl⟩
      have BK0 := Below.refl w20.drew.heap.size w20.drew
      go_region_held3 (fun W => Below w20.drew.heap.size w20.drew W ∧ W.cell? ⟨w16.heap.size, 0, none⟩ = some (.int .i64 a) ∧ W.cell? ⟨w16.heap.size, 1, none⟩ = some (.int .i64 b) ∧ W.cell? ⟨w2.heap.size, 0, none⟩ = some (.int .i64 R) ∧ W.cell? ⟨w2.heap.size, 1, none⟩ = some (.int .i64 I) ∧ W.cell? ⟨w.heap.size + 1, 4, none⟩ = some (.int .i64 mo))
        (first | (with_reducible exact sv.out _ BK0) | (with_reducible assumption) | (with_reducible exact sv.out _ (bt (And.left (by assumption)) hbw)))
        (first | (go_at_call 37; refine (cut_any _ _ HMO.out _).mono ?_; rintro e w_ ⟨rfl, rfl⟩) | (go_at_call 28; refine (hIS _).mono ?_; rintro e w_ ⟨rfl, hbw⟩) | (go_at_call 11; refine (awake_any _).mono ?_; rintro e w_ ⟨rfl, hbw⟩))
      rename_i hK
      have LZ := LD20.out.bel hK.1
      clear hK
      go_wp2
      go_ret
      exact ⟨rfl, LZ.below⟩
  | true =>
    obtain rfl : 0 = ed := (gE_y hrs).symm.trans Hed.out
    obtain rfl : R + S = p1 := (gV_y hrs).symm.trans Hp1.out
    obtain rfl : I + J = p2 := (gV_y hrs).symm.trans Hp2.out
    obtain rfl : S = p3 := (gV_y hrs).symm.trans Hp3.out
    obtain rfl : J = p4 := (gV_y hrs).symm.trans Hp4.out
    obtain rfl : N = p5 := (gV_y hrs).symm.trans Hp5.out
    obtain rfl : M = p6 := (gV_y hrs).symm.trans Hp6.out
    have hDI := HRS.out hrs
    clear hrs HRS Hed Hp1 Hp2 Hp3 Hp4 Hp5 Hp6
    have f30 := Lw8.out.cell (i := 0) (v := cx (wd false (R + S)) (wd false (I + J))) (List.mem_cons_of_mem _ (List.mem_cons_of_mem _ (List.mem_cons_of_mem _ (List.mem_cons_self ..)))) rfl
    have f31 := Lw8.out.cell (i := 1) (v := cx (wd false S) (wd false J)) (List.mem_cons_of_mem _ (List.mem_cons_of_mem _ (List.mem_cons_of_mem _ (List.mem_cons_self ..)))) rfl
    have f32 := Lw8.out.cell (i := 2) (v := cx (wd false N) (wd false M)) (List.mem_cons_of_mem _ (List.mem_cons_of_mem _ (List.mem_cons_of_mem _ (List.mem_cons_self ..)))) rfl
    have f33 := Lw8.out.cell (i := 0) (v := .int .i64 (R + S)) (List.mem_cons_self ..) rfl
    have f34 := Lw8.out.cell (i := 1) (v := .int .i64 (I + J)) (List.mem_cons_self ..) rfl
    have f35 := Lw8.out.cell (i := 2) (v := .int .i64 S) (List.mem_cons_self ..) rfl
    have f36 := Lw8.out.cell (i := 3) (v := .int .i64 J) (List.mem_cons_self ..) rfl
    have f37 := Lw8.out.cell (i := 4) (v := .int .i64 N) (List.mem_cons_self ..) rfl
    have f38 := Lw8.out.cell (i := 5) (v := .int .i64 M) (List.mem_cons_self ..) rfl
    go_wp2_with fail
    refine (hDI _).mono ?_
    rintro e w9 ⟨rfl, hb⟩
    have Lw9 := Lib.hid (Lw8.out.bel hb)
    clear hb Lw8 f30 f31 f32 f33 f34 f35 f36 f37 f38
    clear hDI
    have f39 := Lw9.out.cell (i := 0) (v := .int .i64 re) (List.mem_cons_of_mem _ (List.mem_cons_of_mem _ (List.mem_cons_of_mem _ (List.mem_cons_of_mem _ (List.mem_cons_of_mem _ (List.mem_cons_of_mem _ (List.mem_cons_self ..))))))) rfl
    have f40 := Lw9.out.cell (i := 1) (v := .int .i64 im) (List.mem_cons_of_mem _ (List.mem_cons_of_mem _ (List.mem_cons_of_mem _ (List.mem_cons_of_mem _ (List.mem_cons_of_mem _ (List.mem_cons_of_mem _ (List.mem_cons_self ..))))))) rfl
    have f41 := Lw9.out.cell (i := 2) (v := .int .i64 kd) (List.mem_cons_of_mem _ (List.mem_cons_of_mem _ (List.mem_cons_of_mem _ (List.mem_cons_of_mem _ (List.mem_cons_of_mem _ (List.mem_cons_of_mem _ (List.mem_cons_self ..))))))) rfl
    go_wp2_with fail
    refine (hpl _).mono ?_
    rintro e w16 ⟨rfl, hb⟩
    have Lw16 := Lib.hid (Lw9.out.bel hb)
    clear hb Lw9 f39 f40 f41
    have Lw16n := Lib.hid (Lw16.out.new 39 #[.int .i64 a, .int .i64 b])
    clear Lw16
    clear hpl
    have f42 := Lw16n.out.cell (i := 0) (v := .int .i64 re) (List.mem_cons_of_mem _ (List.mem_cons_of_mem _ (List.mem_cons_of_mem _ (List.mem_cons_of_mem _ (List.mem_cons_of_mem _ (List.mem_cons_of_mem _ (List.mem_cons_of_mem _ (List.mem_cons_self ..)))))))) rfl
    have f43 := Lw16n.out.cell (i := 1) (v := .int .i64 im) (List.mem_cons_of_mem _ (List.mem_cons_of_mem _ (List.mem_cons_of_mem _ (List.mem_cons_of_mem _ (List.mem_cons_of_mem _ (List.mem_cons_of_mem _ (List.mem_cons_of_mem _ (List.mem_cons_self ..)))))))) rfl
    have f44 := Lw16n.out.cell (i := 2) (v := .int .i64 kd) (List.mem_cons_of_mem _ (List.mem_cons_of_mem _ (List.mem_cons_of_mem _ (List.mem_cons_of_mem _ (List.mem_cons_of_mem _ (List.mem_cons_of_mem _ (List.mem_cons_of_mem _ (List.mem_cons_self ..)))))))) rfl
    cases hrb : rightB a b with
    | false =>
      rw [hrb] at hr Heb Hs1 Hs2 Hes Hb1 Hb2 Hb3 Hb4 Hb5 Hb6
      rw [Bool.false_and] at Heb Hs1 Hs2 Hes Hb1 Hb2 Hb3 Hb4 Hb5 Hb6
      clear HBL HST hrb
      obtain rfl : 10 = eb := gE_r.symm.trans Heb.out
      obtain rfl : 0 = b1 := gV_r.symm.trans Hb1.out
      obtain rfl : 0 = b2 := gV_r.symm.trans Hb2.out
      obtain rfl : 0 = b3 := gV_r.symm.trans Hb3.out
      obtain rfl : 0 = b4 := gV_r.symm.trans Hb4.out
      obtain rfl : 0 = b5 := gV_r.symm.trans Hb5.out
      obtain rfl : 0 = b6 := gV_r.symm.trans Hb6.out
      clear Heb Hb1 Hb2 Hb3 Hb4 Hb5 Hb6
      go_wp2_with fail
      refine (hr _).mono ?_
      rintro e w17 ⟨rfl, hb⟩
      have Lw17 := Lib.hid (Lw16n.out.bel hb)
      clear hb Lw16n f42 f43 f44
      have f45 := Lw17.out.cell (i := 0) (v := cx (wd false 0) (wd false 0)) (List.mem_cons_of_mem _ (List.mem_cons_of_mem _ (List.mem_cons_of_mem _ (List.mem_cons_self ..)))) rfl
      have f46 := Lw17.out.cell (i := 1) (v := cx (wd false 0) (wd false 0)) (List.mem_cons_of_mem _ (List.mem_cons_of_mem _ (List.mem_cons_of_mem _ (List.mem_cons_self ..)))) rfl
      have f47 := Lw17.out.cell (i := 2) (v := cx (wd false 0) (wd false 0)) (List.mem_cons_of_mem _ (List.mem_cons_of_mem _ (List.mem_cons_of_mem _ (List.mem_cons_self ..)))) rfl
      have f48 := Lw17.out.cell (i := 0) (v := .complex .f64 0 0) (List.mem_cons_of_mem _ (List.mem_cons_of_mem _ (List.mem_cons_self ..))) rfl
      have f49 := Lw17.out.cell (i := 1) (v := .complex .f64 0 0) (List.mem_cons_of_mem _ (List.mem_cons_of_mem _ (List.mem_cons_self ..))) rfl
      have f50 := Lw17.out.cell (i := 2) (v := .complex .f64 0 0) (List.mem_cons_of_mem _ (List.mem_cons_of_mem _ (List.mem_cons_self ..))) rfl
      have f51 := Lw17.out.cell (i := 0) (v := .int .i64 re) (List.mem_cons_of_mem _ (List.mem_cons_of_mem _ (List.mem_cons_of_mem _ (List.mem_cons_of_mem _ (List.mem_cons_of_mem _ (List.mem_cons_of_mem _ (List.mem_cons_of_mem _ (List.mem_cons_self ..)))))))) rfl
      have f52 := Lw17.out.cell (i := 1) (v := .int .i64 im) (List.mem_cons_of_mem _ (List.mem_cons_of_mem _ (List.mem_cons_of_mem _ (List.mem_cons_of_mem _ (List.mem_cons_of_mem _ (List.mem_cons_of_mem _ (List.mem_cons_of_mem _ (List.mem_cons_self ..)))))))) rfl
      have f53 := Lw17.out.cell (i := 2) (v := .int .i64 kd) (List.mem_cons_of_mem _ (List.mem_cons_of_mem _ (List.mem_cons_of_mem _ (List.mem_cons_of_mem _ (List.mem_cons_of_mem _ (List.mem_cons_of_mem _ (List.mem_cons_of_mem _ (List.mem_cons_self ..)))))))) rfl
      go_wp2_with fail
      refine (hr _).mono ?_
      rintro e w20 ⟨rfl, hb⟩
      have Lw20 := Lib.hid (Lw17.out.bel hb)
      clear hb Lw17 f45 f46 f47 f48 f49 f50 f51 f52 f53
      obtain rfl : 0 = s1 := gV_r.symm.trans Hs1.out
      obtain rfl : 0 = s2 := gV_r.symm.trans Hs2.out
      obtain rfl : 10 = es := gE_r.symm.trans Hes.out
      clear Hs1 Hs2 Hes
      go_wp2_with fail
      refine (awake_any _).mono ?_
      rintro e wz ⟨rfl, hb⟩
      have Lwz := Lib.hid (Lw20.out.bel hb)
      clear hb Lw20 
      go_wp2
      go_ret
      exact ⟨rfl, Lwz.out.below⟩
    | true =>
      rw [hrb] at hr Heb Hs1 Hs2 Hes Hb1 Hb2 Hb3 Hb4 Hb5 Hb6
      have HRB := Lib.hid hrb
      clear hrb
      obtain ⟨qb, hqb⟩ : ∃ q, decide (0 ≤ wt ∧ wt ≤ 16) = q := ⟨_, rfl⟩
      rw [hqb, Bool.true_and] at Heb Hb1 Hb2 Hb3 Hb4 Hb5 Hb6
      go_wp2_with fail
      refine (hr _).mono ?_
      rintro e w17 ⟨rfl, hb⟩
      have Lw17 := Lib.hid (Lw16n.out.bel hb)
      clear hb Lw16n f42 f43 f44
      have f45 := Lw17.out.cell (i := 3) (v := .int .i64 wt) (List.mem_cons_of_mem _ (List.mem_cons_of_mem _ (List.mem_cons_of_mem _ (List.mem_cons_of_mem _ (List.mem_cons_of_mem _ (List.mem_cons_of_mem _ (List.mem_cons_of_mem _ (List.mem_cons_self ..)))))))) rfl
      by_cases q0 : wt < 0
      · have dq0 : decide (wt < 0) = true := by simpa using q0
        obtain rfl : false = qb := by rw [← hqb]; simp; omega
        clear hqb q0 HBL
        obtain rfl : 10 = eb := gE_r.symm.trans Heb.out
        obtain rfl : 0 = b1 := gV_r.symm.trans Hb1.out
        obtain rfl : 0 = b2 := gV_r.symm.trans Hb2.out
        obtain rfl : 0 = b3 := gV_r.symm.trans Hb3.out
        obtain rfl : 0 = b4 := gV_r.symm.trans Hb4.out
        obtain rfl : 0 = b5 := gV_r.symm.trans Hb5.out
        obtain rfl : 0 = b6 := gV_r.symm.trans Hb6.out
        clear Heb Hb1 Hb2 Hb3 Hb4 Hb5 Hb6
        have f46 := Lw17.out.cell (i := 0) (v := cx (wd false 0) (wd false 0)) (List.mem_cons_of_mem _ (List.mem_cons_of_mem _ (List.mem_cons_of_mem _ (List.mem_cons_self ..)))) rfl
        have f47 := Lw17.out.cell (i := 1) (v := cx (wd false 0) (wd false 0)) (List.mem_cons_of_mem _ (List.mem_cons_of_mem _ (List.mem_cons_of_mem _ (List.mem_cons_self ..)))) rfl
        have f48 := Lw17.out.cell (i := 2) (v := cx (wd false 0) (wd false 0)) (List.mem_cons_of_mem _ (List.mem_cons_of_mem _ (List.mem_cons_of_mem _ (List.mem_cons_self ..)))) rfl
        have f49 := Lw17.out.cell (i := 0) (v := .complex .f64 0 0) (List.mem_cons_of_mem _ (List.mem_cons_of_mem _ (List.mem_cons_self ..))) rfl
        have f50 := Lw17.out.cell (i := 1) (v := .complex .f64 0 0) (List.mem_cons_of_mem _ (List.mem_cons_of_mem _ (List.mem_cons_self ..))) rfl
        have f51 := Lw17.out.cell (i := 2) (v := .complex .f64 0 0) (List.mem_cons_of_mem _ (List.mem_cons_of_mem _ (List.mem_cons_self ..))) rfl
        obtain ⟨qs, hqs⟩ : ∃ q, decide (0 ≤ mo ∧ mo < 1048576) = q := ⟨_, rfl⟩
        rw [hqs, Bool.true_and] at Hs1 Hs2 Hes
        have f52 := Lw17.out.cell (i := 0) (v := .int .i64 re) (List.mem_cons_of_mem _ (List.mem_cons_of_mem _ (List.mem_cons_of_mem _ (List.mem_cons_of_mem _ (List.mem_cons_of_mem _ (List.mem_cons_of_mem _ (List.mem_cons_of_mem _ (List.mem_cons_self ..)))))))) rfl
        have f53 := Lw17.out.cell (i := 1) (v := .int .i64 im) (List.mem_cons_of_mem _ (List.mem_cons_of_mem _ (List.mem_cons_of_mem _ (List.mem_cons_of_mem _ (List.mem_cons_of_mem _ (List.mem_cons_of_mem _ (List.mem_cons_of_mem _ (List.mem_cons_self ..)))))))) rfl
        have f54 := Lw17.out.cell (i := 2) (v := .int .i64 kd) (List.mem_cons_of_mem _ (List.mem_cons_of_mem _ (List.mem_cons_of_mem _ (List.mem_cons_of_mem _ (List.mem_cons_of_mem _ (List.mem_cons_of_mem _ (List.mem_cons_of_mem _ (List.mem_cons_self ..)))))))) rfl
        go_wp2_with fail
        refine (hr _).mono ?_
        rintro e w20 ⟨rfl, hb⟩
        have Lw20 := Lib.hid (Lw17.out.bel hb)
        clear hb Lw17 f45 f46 f47 f48 f49 f50 f51 f52 f53 f54
        clear hr
        have f55 := Lw20.out.cell (i := 4) (v := .int .i64 mo) (List.mem_cons_of_mem _ (List.mem_cons_of_mem _ (List.mem_cons_of_mem _ (List.mem_cons_of_mem _ (List.mem_cons_of_mem _ (List.mem_cons_of_mem _ (List.mem_cons_of_mem _ (List.mem_cons_self ..)))))))) rfl
        by_cases m0 : mo < 0
        · have dm0 : decide (mo < 0) = true := by simpa using m0
          obtain rfl : false = qs := by rw [← hqs]; simp; omega
          clear hqs m0
          obtain rfl : 0 = s1 := gV_r.symm.trans Hs1.out
          obtain rfl : 0 = s2 := gV_r.symm.trans Hs2.out
          obtain rfl : 10 = es := gE_r.symm.trans Hes.out
          clear Hs1 Hs2 Hes
          go_wp2_with fail
          refine (awake_any _).mono ?_
          rintro e wz ⟨rfl, hb⟩
          have Lwz := Lib.hid (Lw20.out.bel hb)
          clear hb Lw20 f55
          go_wp2
          go_ret
          exact ⟨rfl, Lwz.out.below⟩
        have dm0 : decide (mo < 0) = false := by simpa using m0
        by_cases m1 : 1048575 < mo
        · have dm1 : decide (1048575 < mo) = true := by simpa using m1
          obtain rfl : false = qs := by rw [← hqs]; simp; omega
          clear hqs m0 m1
          obtain rfl : 0 = s1 := gV_r.symm.trans Hs1.out
          obtain rfl : 0 = s2 := gV_r.symm.trans Hs2.out
          obtain rfl : 10 = es := gE_r.symm.trans Hes.out
          clear Hs1 Hs2 Hes
          go_wp2_with fail
          refine (awake_any _).mono ?_
          rintro e wz ⟨rfl, hb⟩
          have Lwz := Lib.hid (Lw20.out.bel hb)
          clear hb Lw20 f55
          go_wp2
          go_ret
          exact ⟨rfl, Lwz.out.below⟩
        have dm1 : decide (1048575 < mo) = false := by simpa using m1
        obtain rfl : true = qs := by rw [← hqs]; simp; omega
        have HMO : Hid (0 ≤ mo ∧ mo < 1048576) := Lib.hid (by omega)
        clear hqs m0 m1
        obtain rfl : cutF (a - R) mo = s1 := (gV_y right0).symm.trans Hs1.out
        obtain rfl : cutF (b - I) mo = s2 := (gV_y right0).symm.trans Hs2.out
        obtain rfl : 0 = es := (gE_y right0).symm.trans Hes.out
        obtain ⟨wr1, wr2, _, _, hIS⟩ := HST.out HRB.out HMO.out
        clear Hs1 Hs2 Hes HST
        go_wp2
        clear f55
        have LD20 := Lib.hid Lw20.out.drew
        clear Lw20
        have sv : Hid (∀ W, Below w20.drew.heap.size w20.drew W → Below w20.drew.heap.size w20.drew W ∧ W.cell? ⟨w16.heap.size, 0, none⟩ = some (.int .i64 a) ∧ W.cell? ⟨w16.heap.size, 1, none⟩ = some (.int .i64 b) ∧ W.cell? ⟨w2.heap.size, 0, none⟩ = some (.int .i64 R) ∧ W.cell? ⟨w2.heap.size, 1, none⟩ = some (.int .i64 I) ∧ W.cell? ⟨w.heap.size + 1, 4, none⟩ = some (.int .i64 mo)) := Lib.hid fun W hb => by
          have LL := LD20.out.bel hb
          exact ⟨hb, LL.cell (i := 0) (v := .int .i64 a) (List.mem_cons_self ..) rfl, LL.cell (i := 1) (v := .int .i64 b) (List.mem_cons_self ..) rfl, LL.cell (i := 0) (v := .int .i64 R) (List.mem_cons_of_mem _ (List.mem_cons_of_mem _ (List.mem_cons_of_mem _ (List.mem_cons_of_mem _ (List.mem_cons_of_mem _ (List.mem_cons_self ..)))))) rfl, LL.cell (i := 1) (v := .int .i64 I) (List.mem_cons_of_mem _ (List.mem_cons_of_mem _ (List.mem_cons_of_mem _ (List.mem_cons_of_mem _ (List.mem_cons_of_mem _ (List.mem_cons_self ..)))))) rfl, LL.cell (i := 4) (v := .int .i64 mo) (List.mem_cons_of_mem _ (List.mem_cons_of_mem _ (List.mem_cons_of_mem _ (List.mem_cons_of_mem _ (List.mem_cons_of_mem _ (List.mem_cons_of_mem _ (List.mem_cons_of_mem _ (List.mem_cons_self ..)))))))) rfl⟩
        have BK0 := Below.refl w20.drew.heap.size w20.drew
        go_region_held3 (fun W => Below w20.drew.heap.size w20.drew W ∧ W.cell? ⟨w16.heap.size, 0, none⟩ = some (.int .i64 a) ∧ W.cell? ⟨w16.heap.size, 1, none⟩ = some (.int .i64 b) ∧ W.cell? ⟨w2.heap.size, 0, none⟩ = some (.int .i64 R) ∧ W.cell? ⟨w2.heap.size, 1, none⟩ = some (.int .i64 I) ∧ W.cell? ⟨w.heap.size + 1, 4, none⟩ = some (.int .i64 mo))
          (first | (with_reducible exact sv.out _ BK0) | (with_reducible assumption) | (with_reducible exact sv.out _ (bt (And.left (by assumption)) hbw)))
          (first | (go_at_call 37; refine (cut_any _ _ HMO.out _).mono ?_; rintro e w_ ⟨rfl, rfl⟩) | (go_at_call 28; refine (hIS _).mono ?_; rintro e w_ ⟨rfl, hbw⟩) | (go_at_call 11; refine (awake_any _).mono ?_; rintro e w_ ⟨rfl, hbw⟩))
        rename_i hK
        have LZ := LD20.out.bel hK.1
        clear hK
        go_wp2
        go_ret
        exact ⟨rfl, LZ.below⟩
      have dq0 : decide (wt < 0) = false := by simpa using q0
      by_cases q1 : 16 < wt
      · have dq1 : decide (16 < wt) = true := by simpa using q1
        obtain rfl : false = qb := by rw [← hqb]; simp; omega
        clear hqb q0 q1 HBL
        obtain rfl : 10 = eb := gE_r.symm.trans Heb.out
        obtain rfl : 0 = b1 := gV_r.symm.trans Hb1.out
        obtain rfl : 0 = b2 := gV_r.symm.trans Hb2.out
        obtain rfl : 0 = b3 := gV_r.symm.trans Hb3.out
        obtain rfl : 0 = b4 := gV_r.symm.trans Hb4.out
        obtain rfl : 0 = b5 := gV_r.symm.trans Hb5.out
        obtain rfl : 0 = b6 := gV_r.symm.trans Hb6.out
        clear Heb Hb1 Hb2 Hb3 Hb4 Hb5 Hb6
        have f46 := Lw17.out.cell (i := 0) (v := cx (wd false 0) (wd false 0)) (List.mem_cons_of_mem _ (List.mem_cons_of_mem _ (List.mem_cons_of_mem _ (List.mem_cons_self ..)))) rfl
        have f47 := Lw17.out.cell (i := 1) (v := cx (wd false 0) (wd false 0)) (List.mem_cons_of_mem _ (List.mem_cons_of_mem _ (List.mem_cons_of_mem _ (List.mem_cons_self ..)))) rfl
        have f48 := Lw17.out.cell (i := 2) (v := cx (wd false 0) (wd false 0)) (List.mem_cons_of_mem _ (List.mem_cons_of_mem _ (List.mem_cons_of_mem _ (List.mem_cons_self ..)))) rfl
        have f49 := Lw17.out.cell (i := 0) (v := .complex .f64 0 0) (List.mem_cons_of_mem _ (List.mem_cons_of_mem _ (List.mem_cons_self ..))) rfl
        have f50 := Lw17.out.cell (i := 1) (v := .complex .f64 0 0) (List.mem_cons_of_mem _ (List.mem_cons_of_mem _ (List.mem_cons_self ..))) rfl
        have f51 := Lw17.out.cell (i := 2) (v := .complex .f64 0 0) (List.mem_cons_of_mem _ (List.mem_cons_of_mem _ (List.mem_cons_self ..))) rfl
        obtain ⟨qs, hqs⟩ : ∃ q, decide (0 ≤ mo ∧ mo < 1048576) = q := ⟨_, rfl⟩
        rw [hqs, Bool.true_and] at Hs1 Hs2 Hes
        have f52 := Lw17.out.cell (i := 0) (v := .int .i64 re) (List.mem_cons_of_mem _ (List.mem_cons_of_mem _ (List.mem_cons_of_mem _ (List.mem_cons_of_mem _ (List.mem_cons_of_mem _ (List.mem_cons_of_mem _ (List.mem_cons_of_mem _ (List.mem_cons_self ..)))))))) rfl
        have f53 := Lw17.out.cell (i := 1) (v := .int .i64 im) (List.mem_cons_of_mem _ (List.mem_cons_of_mem _ (List.mem_cons_of_mem _ (List.mem_cons_of_mem _ (List.mem_cons_of_mem _ (List.mem_cons_of_mem _ (List.mem_cons_of_mem _ (List.mem_cons_self ..)))))))) rfl
        have f54 := Lw17.out.cell (i := 2) (v := .int .i64 kd) (List.mem_cons_of_mem _ (List.mem_cons_of_mem _ (List.mem_cons_of_mem _ (List.mem_cons_of_mem _ (List.mem_cons_of_mem _ (List.mem_cons_of_mem _ (List.mem_cons_of_mem _ (List.mem_cons_self ..)))))))) rfl
        go_wp2_with fail
        refine (hr _).mono ?_
        rintro e w20 ⟨rfl, hb⟩
        have Lw20 := Lib.hid (Lw17.out.bel hb)
        clear hb Lw17 f45 f46 f47 f48 f49 f50 f51 f52 f53 f54
        clear hr
        have f55 := Lw20.out.cell (i := 4) (v := .int .i64 mo) (List.mem_cons_of_mem _ (List.mem_cons_of_mem _ (List.mem_cons_of_mem _ (List.mem_cons_of_mem _ (List.mem_cons_of_mem _ (List.mem_cons_of_mem _ (List.mem_cons_of_mem _ (List.mem_cons_self ..)))))))) rfl
        by_cases m0 : mo < 0
        · have dm0 : decide (mo < 0) = true := by simpa using m0
          obtain rfl : false = qs := by rw [← hqs]; simp; omega
          clear hqs m0
          obtain rfl : 0 = s1 := gV_r.symm.trans Hs1.out
          obtain rfl : 0 = s2 := gV_r.symm.trans Hs2.out
          obtain rfl : 10 = es := gE_r.symm.trans Hes.out
          clear Hs1 Hs2 Hes
          go_wp2_with fail
          refine (awake_any _).mono ?_
          rintro e wz ⟨rfl, hb⟩
          have Lwz := Lib.hid (Lw20.out.bel hb)
          clear hb Lw20 f55
          go_wp2
          go_ret
          exact ⟨rfl, Lwz.out.below⟩
        have dm0 : decide (mo < 0) = false := by simpa using m0
        by_cases m1 : 1048575 < mo
        · have dm1 : decide (1048575 < mo) = true := by simpa using m1
          obtain rfl : false = qs := by rw [← hqs]; simp; omega
          clear hqs m0 m1
          obtain rfl : 0 = s1 := gV_r.symm.trans Hs1.out
          obtain rfl : 0 = s2 := gV_r.symm.trans Hs2.out
          obtain rfl : 10 = es := gE_r.symm.trans Hes.out
          clear Hs1 Hs2 Hes
          go_wp2_with fail
          refine (awake_any _).mono ?_
          rintro e wz ⟨rfl, hb⟩
          have Lwz := Lib.hid (Lw20.out.bel hb)
          clear hb Lw20 f55
          go_wp2
          go_ret
          exact ⟨rfl, Lwz.out.below⟩
        have dm1 : decide (1048575 < mo) = false := by simpa using m1
        obtain rfl : true = qs := by rw [← hqs]; simp; omega
        have HMO : Hid (0 ≤ mo ∧ mo < 1048576) := Lib.hid (by omega)
        clear hqs m0 m1
        obtain rfl : cutF (a - R) mo = s1 := (gV_y right0).symm.trans Hs1.out
        obtain rfl : cutF (b - I) mo = s2 := (gV_y right0).symm.trans Hs2.out
        obtain rfl : 0 = es := (gE_y right0).symm.trans Hes.out
        obtain ⟨wr1, wr2, _, _, hIS⟩ := HST.out HRB.out HMO.out
        clear Hs1 Hs2 Hes HST
        go_wp2
        clear f55
        have LD20 := Lib.hid Lw20.out.drew
        clear Lw20
        have sv : Hid (∀ W, Below w20.drew.heap.size w20.drew W → Below w20.drew.heap.size w20.drew W ∧ W.cell? ⟨w16.heap.size, 0, none⟩ = some (.int .i64 a) ∧ W.cell? ⟨w16.heap.size, 1, none⟩ = some (.int .i64 b) ∧ W.cell? ⟨w2.heap.size, 0, none⟩ = some (.int .i64 R) ∧ W.cell? ⟨w2.heap.size, 1, none⟩ = some (.int .i64 I) ∧ W.cell? ⟨w.heap.size + 1, 4, none⟩ = some (.int .i64 mo)) := Lib.hid fun W hb => by
          have LL := LD20.out.bel hb
          exact ⟨hb, LL.cell (i := 0) (v := .int .i64 a) (List.mem_cons_self ..) rfl, LL.cell (i := 1) (v := .int .i64 b) (List.mem_cons_self ..) rfl, LL.cell (i := 0) (v := .int .i64 R) (List.mem_cons_of_mem _ (List.mem_cons_of_mem _ (List.mem_cons_of_mem _ (List.mem_cons_of_mem _ (List.mem_cons_of_mem _ (List.mem_cons_self ..)))))) rfl, LL.cell (i := 1) (v := .int .i64 I) (List.mem_cons_of_mem _ (List.mem_cons_of_mem _ (List.mem_cons_of_mem _ (List.mem_cons_of_mem _ (List.mem_cons_of_mem _ (List.mem_cons_self ..)))))) rfl, LL.cell (i := 4) (v := .int .i64 mo) (List.mem_cons_of_mem _ (List.mem_cons_of_mem _ (List.mem_cons_of_mem _ (List.mem_cons_of_mem _ (List.mem_cons_of_mem _ (List.mem_cons_of_mem _ (List.mem_cons_of_mem _ (List.mem_cons_self ..)))))))) rfl⟩
        have BK0 := Below.refl w20.drew.heap.size w20.drew
        go_region_held3 (fun W => Below w20.drew.heap.size w20.drew W ∧ W.cell? ⟨w16.heap.size, 0, none⟩ = some (.int .i64 a) ∧ W.cell? ⟨w16.heap.size, 1, none⟩ = some (.int .i64 b) ∧ W.cell? ⟨w2.heap.size, 0, none⟩ = some (.int .i64 R) ∧ W.cell? ⟨w2.heap.size, 1, none⟩ = some (.int .i64 I) ∧ W.cell? ⟨w.heap.size + 1, 4, none⟩ = some (.int .i64 mo))
          (first | (with_reducible exact sv.out _ BK0) | (with_reducible assumption) | (with_reducible exact sv.out _ (bt (And.left (by assumption)) hbw)))
          (first | (go_at_call 37; refine (cut_any _ _ HMO.out _).mono ?_; rintro e w_ ⟨rfl, rfl⟩) | (go_at_call 28; refine (hIS _).mono ?_; rintro e w_ ⟨rfl, hbw⟩) | (go_at_call 11; refine (awake_any _).mono ?_; rintro e w_ ⟨rfl, hbw⟩))
        rename_i hK
        have LZ := LD20.out.bel hK.1
        clear hK
        go_wp2
        go_ret
        exact ⟨rfl, LZ.below⟩
      have dq1 : decide (16 < wt) = false := by simpa using q1
      obtain rfl : true = qb := by rw [← hqb]; simp; omega
      have HWT : Hid (0 ≤ wt ∧ wt ≤ 16) := Lib.hid (by omega)
      clear hqb q0 q1
      obtain rfl : partF R a wt = b1 := (gV_y right0).symm.trans Hb1.out
      obtain rfl : partF I b wt = b2 := (gV_y right0).symm.trans Hb2.out
      obtain rfl : S = b3 := (gV_y right0).symm.trans Hb3.out
      obtain rfl : J = b4 := (gV_y right0).symm.trans Hb4.out
      obtain rfl : N = b5 := (gV_y right0).symm.trans Hb5.out
      obtain rfl : M = b6 := (gV_y right0).symm.trans Hb6.out
      obtain rfl : 0 = eb := (gE_y right0).symm.trans Heb.out
      clear Heb Hb1 Hb2 Hb3 Hb4 Hb5 Hb6
      obtain ⟨hP1, hP2, hIP⟩ := HBL.out HRB.out HWT.out
      clear HBL
      have f46 := Lw17.out.cell (i := 0) (v := .int .i64 R) (List.mem_cons_of_mem _ (List.mem_cons_of_mem _ (List.mem_cons_of_mem _ (List.mem_cons_of_mem _ (List.mem_cons_of_mem _ (List.mem_cons_self ..)))))) rfl
      have f47 := Lw17.out.cell (i := 1) (v := .int .i64 I) (List.mem_cons_of_mem _ (List.mem_cons_of_mem _ (List.mem_cons_of_mem _ (List.mem_cons_of_mem _ (List.mem_cons_of_mem _ (List.mem_cons_self ..)))))) rfl
      have f48 := Lw17.out.cell (i := 2) (v := .int .i64 S) (List.mem_cons_of_mem _ (List.mem_cons_of_mem _ (List.mem_cons_of_mem _ (List.mem_cons_of_mem _ (List.mem_cons_of_mem _ (List.mem_cons_self ..)))))) rfl
      have f49 := Lw17.out.cell (i := 3) (v := .int .i64 J) (List.mem_cons_of_mem _ (List.mem_cons_of_mem _ (List.mem_cons_of_mem _ (List.mem_cons_of_mem _ (List.mem_cons_of_mem _ (List.mem_cons_self ..)))))) rfl
      have f50 := Lw17.out.cell (i := 4) (v := .int .i64 N) (List.mem_cons_of_mem _ (List.mem_cons_of_mem _ (List.mem_cons_of_mem _ (List.mem_cons_of_mem _ (List.mem_cons_of_mem _ (List.mem_cons_self ..)))))) rfl
      have f51 := Lw17.out.cell (i := 5) (v := .int .i64 M) (List.mem_cons_of_mem _ (List.mem_cons_of_mem _ (List.mem_cons_of_mem _ (List.mem_cons_of_mem _ (List.mem_cons_of_mem _ (List.mem_cons_self ..)))))) rfl
      have NE17 := Lib.hid Lw17.out.ne
      have GE17 := Lib.hid Lw17.out.below.size
      have L17 := Lib.hid (Lw17.out.new 48 #[.int .i64 R, .int .i64 I, .int .i64 S, .int .i64 J, .int .i64 N, .int .i64 M])
      obtain ⟨W17, hW17⟩ : ∃ x, w17.alloc (.cells #[.int .i64 R, .int .i64 I, .int .i64 S, .int .i64 J, .int .i64 N, .int .i64 M] 48) = x := ⟨_, rfl⟩
      rw [hW17] at L17
      go_wp2
      clear hW17
      clear f45 f46 f47 f48 f49 f50 f51
      clear Lw17
      have sv : Hid (∀ W, LW w 0 [(w16.heap.size, 39, #[.int .i64 a, .int .i64 b]), (w6.heap.size + 1, 48, #[.int .i64 (R + S), .int .i64 (I + J), .int .i64 S, .int .i64 J, .int .i64 N, .int .i64 M]), (w6.heap.size, 45, #[.complex .f64 0 0, .complex .f64 0 0, .complex .f64 0 0]), (g, 45, #[cx (wd false (partF R a wt)) (wd false (partF I b wt)), cx (wd false S) (wd false J), cx (wd false N) (wd false M)]), (w3.heap.size, 45, #[cx (wd false (R + S)) (wd false (I + J)), cx (wd false S) (wd false J), cx (wd false N) (wd false M)]), (w2.heap.size, 48, #[.int .i64 R, .int .i64 I, .int .i64 S, .int .i64 J, .int .i64 N, .int .i64 M]), (w1.heap.size, 45, #[cx x1 y1, cx x2 y2, cx x3 y3]), (w.heap.size + 1, 67, #[.int .i64 re, .int .i64 im, .int .i64 kd, .int .i64 wt, .int .i64 mo]), (w.heap.size, 43, #[.int .i64 re0, .int .i64 im0, .int .i64 k0, .int .i64 re1, .int .i64 im1, .int .i64 k1, .int .i64 re2, .int .i64 im2, .int .i64 k2])] W ∧ RR w17.heap.size 6 48 W → (LW w 0 [(w16.heap.size, 39, #[.int .i64 a, .int .i64 b]), (w6.heap.size + 1, 48, #[.int .i64 (R + S), .int .i64 (I + J), .int .i64 S, .int .i64 J, .int .i64 N, .int .i64 M]), (w6.heap.size, 45, #[.complex .f64 0 0, .complex .f64 0 0, .complex .f64 0 0]), (g, 45, #[cx (wd false (partF R a wt)) (wd false (partF I b wt)), cx (wd false S) (wd false J), cx (wd false N) (wd false M)]), (w3.heap.size, 45, #[cx (wd false (R + S)) (wd false (I + J)), cx (wd false S) (wd false J), cx (wd false N) (wd false M)]), (w2.heap.size, 48, #[.int .i64 R, .int .i64 I, .int .i64 S, .int .i64 J, .int .i64 N, .int .i64 M]), (w1.heap.size, 45, #[cx x1 y1, cx x2 y2, cx x3 y3]), (w.heap.size + 1, 67, #[.int .i64 re, .int .i64 im, .int .i64 kd, .int .i64 wt, .int .i64 mo]), (w.heap.size, 43, #[.int .i64 re0, .int .i64 im0, .int .i64 k0, .int .i64 re1, .int .i64 im1, .int .i64 k1, .int .i64 re2, .int .i64 im2, .int .i64 k2])] W ∧ RR w17.heap.size 6 48 W) ∧ W.cell? ⟨w2.heap.size, 0, none⟩ = some (.int .i64 R) ∧ W.cell? ⟨w2.heap.size, 1, none⟩ = some (.int .i64 I) ∧ W.cell? ⟨w16.heap.size, 0, none⟩ = some (.int .i64 a) ∧ W.cell? ⟨w16.heap.size, 1, none⟩ = some (.int .i64 b) ∧ W.cell? ⟨w.heap.size + 1, 3, none⟩ = some (.int .i64 wt) ∧ W.cell? ⟨w17.heap.size, 0, none⟩ = some (gcell w17.heap.size W 0) ∧ W.cell? ⟨w17.heap.size, 1, none⟩ = some (gcell w17.heap.size W 1) ∧ W.frozen? ⟨w17.heap.size, 0, none⟩ = false ∧ W.frozen? ⟨w17.heap.size, 1, none⟩ = false) := Lib.hid fun W hb => ⟨hb, hb.1.cell (i := 0) (v := .int .i64 R) (List.mem_cons_of_mem _ (List.mem_cons_of_mem _ (List.mem_cons_of_mem _ (List.mem_cons_of_mem _ (List.mem_cons_of_mem _ (List.mem_cons_self ..)))))) rfl, hb.1.cell (i := 1) (v := .int .i64 I) (List.mem_cons_of_mem _ (List.mem_cons_of_mem _ (List.mem_cons_of_mem _ (List.mem_cons_of_mem _ (List.mem_cons_of_mem _ (List.mem_cons_self ..)))))) rfl, hb.1.cell (i := 0) (v := .int .i64 a) (List.mem_cons_self ..) rfl, hb.1.cell (i := 1) (v := .int .i64 b) (List.mem_cons_self ..) rfl, hb.1.cell (i := 3) (v := .int .i64 wt) (List.mem_cons_of_mem _ (List.mem_cons_of_mem _ (List.mem_cons_of_mem _ (List.mem_cons_of_mem _ (List.mem_cons_of_mem _ (List.mem_cons_of_mem _ (List.mem_cons_of_mem _ (List.mem_cons_self ..)))))))) rfl, hb.2.cell (by decide), hb.2.cell (by decide), hb.2.frozen _, hb.2.frozen _⟩
      have sw : Hid (∀ W i v, LW w 0 [(w16.heap.size, 39, #[.int .i64 a, .int .i64 b]), (w6.heap.size + 1, 48, #[.int .i64 (R + S), .int .i64 (I + J), .int .i64 S, .int .i64 J, .int .i64 N, .int .i64 M]), (w6.heap.size, 45, #[.complex .f64 0 0, .complex .f64 0 0, .complex .f64 0 0]), (g, 45, #[cx (wd false (partF R a wt)) (wd false (partF I b wt)), cx (wd false S) (wd false J), cx (wd false N) (wd false M)]), (w3.heap.size, 45, #[cx (wd false (R + S)) (wd false (I + J)), cx (wd false S) (wd false J), cx (wd false N) (wd false M)]), (w2.heap.size, 48, #[.int .i64 R, .int .i64 I, .int .i64 S, .int .i64 J, .int .i64 N, .int .i64 M]), (w1.heap.size, 45, #[cx x1 y1, cx x2 y2, cx x3 y3]), (w.heap.size + 1, 67, #[.int .i64 re, .int .i64 im, .int .i64 kd, .int .i64 wt, .int .i64 mo]), (w.heap.size, 43, #[.int .i64 re0, .int .i64 im0, .int .i64 k0, .int .i64 re1, .int .i64 im1, .int .i64 k1, .int .i64 re2, .int .i64 im2, .int .i64 k2])] W ∧ RR w17.heap.size 6 48 W → LW w 0 [(w16.heap.size, 39, #[.int .i64 a, .int .i64 b]), (w6.heap.size + 1, 48, #[.int .i64 (R + S), .int .i64 (I + J), .int .i64 S, .int .i64 J, .int .i64 N, .int .i64 M]), (w6.heap.size, 45, #[.complex .f64 0 0, .complex .f64 0 0, .complex .f64 0 0]), (g, 45, #[cx (wd false (partF R a wt)) (wd false (partF I b wt)), cx (wd false S) (wd false J), cx (wd false N) (wd false M)]), (w3.heap.size, 45, #[cx (wd false (R + S)) (wd false (I + J)), cx (wd false S) (wd false J), cx (wd false N) (wd false M)]), (w2.heap.size, 48, #[.int .i64 R, .int .i64 I, .int .i64 S, .int .i64 J, .int .i64 N, .int .i64 M]), (w1.heap.size, 45, #[cx x1 y1, cx x2 y2, cx x3 y3]), (w.heap.size + 1, 67, #[.int .i64 re, .int .i64 im, .int .i64 kd, .int .i64 wt, .int .i64 mo]), (w.heap.size, 43, #[.int .i64 re0, .int .i64 im0, .int .i64 k0, .int .i64 re1, .int .i64 im1, .int .i64 k1, .int .i64 re2, .int .i64 im2, .int .i64 k2])] (W.setCell ⟨w17.heap.size, i, none⟩ v) ∧ RR w17.heap.size 6 48 (W.setCell ⟨w17.heap.size, i, none⟩ v)) := Lib.hid fun W i v hb => ⟨hb.1.setOther NE17.out GE17.out v, hb.2.set i v⟩
      have BK1 : LW w 0 [(w16.heap.size, 39, #[.int .i64 a, .int .i64 b]), (w6.heap.size + 1, 48, #[.int .i64 (R + S), .int .i64 (I + J), .int .i64 S, .int .i64 J, .int .i64 N, .int .i64 M]), (w6.heap.size, 45, #[.complex .f64 0 0, .complex .f64 0 0, .complex .f64 0 0]), (g, 45, #[cx (wd false (partF R a wt)) (wd false (partF I b wt)), cx (wd false S) (wd false J), cx (wd false N) (wd false M)]), (w3.heap.size, 45, #[cx (wd false (R + S)) (wd false (I + J)), cx (wd false S) (wd false J), cx (wd false N) (wd false M)]), (w2.heap.size, 48, #[.int .i64 R, .int .i64 I, .int .i64 S, .int .i64 J, .int .i64 N, .int .i64 M]), (w1.heap.size, 45, #[cx x1 y1, cx x2 y2, cx x3 y3]), (w.heap.size + 1, 67, #[.int .i64 re, .int .i64 im, .int .i64 kd, .int .i64 wt, .int .i64 mo]), (w.heap.size, 43, #[.int .i64 re0, .int .i64 im0, .int .i64 k0, .int .i64 re1, .int .i64 im1, .int .i64 k1, .int .i64 re2, .int .i64 im2, .int .i64 k2])] W17 ∧ RR w17.heap.size 6 48 W17 := ⟨LW.tail L17.out, ⟨_, rfl, L17.out.row (List.mem_cons_self ..)⟩⟩
      have sd : Hid (∀ W, LW w 0 [(w16.heap.size, 39, #[.int .i64 a, .int .i64 b]), (w6.heap.size + 1, 48, #[.int .i64 (R + S), .int .i64 (I + J), .int .i64 S, .int .i64 J, .int .i64 N, .int .i64 M]), (w6.heap.size, 45, #[.complex .f64 0 0, .complex .f64 0 0, .complex .f64 0 0]), (g, 45, #[cx (wd false (partF R a wt)) (wd false (partF I b wt)), cx (wd false S) (wd false J), cx (wd false N) (wd false M)]), (w3.heap.size, 45, #[cx (wd false (R + S)) (wd false (I + J)), cx (wd false S) (wd false J), cx (wd false N) (wd false M)]), (w2.heap.size, 48, #[.int .i64 R, .int .i64 I, .int .i64 S, .int .i64 J, .int .i64 N, .int .i64 M]), (w1.heap.size, 45, #[cx x1 y1, cx x2 y2, cx x3 y3]), (w.heap.size + 1, 67, #[.int .i64 re, .int .i64 im, .int .i64 kd, .int .i64 wt, .int .i64 mo]), (w.heap.size, 43, #[.int .i64 re0, .int .i64 im0, .int .i64 k0, .int .i64 re1, .int .i64 im1, .int .i64 k1, .int .i64 re2, .int .i64 im2, .int .i64 k2])] W ∧ RR w17.heap.size 6 48 W → LW w 0 [(w16.heap.size, 39, #[.int .i64 a, .int .i64 b]), (w6.heap.size + 1, 48, #[.int .i64 (R + S), .int .i64 (I + J), .int .i64 S, .int .i64 J, .int .i64 N, .int .i64 M]), (w6.heap.size, 45, #[.complex .f64 0 0, .complex .f64 0 0, .complex .f64 0 0]), (g, 45, #[cx (wd false (partF R a wt)) (wd false (partF I b wt)), cx (wd false S) (wd false J), cx (wd false N) (wd false M)]), (w3.heap.size, 45, #[cx (wd false (R + S)) (wd false (I + J)), cx (wd false S) (wd false J), cx (wd false N) (wd false M)]), (w2.heap.size, 48, #[.int .i64 R, .int .i64 I, .int .i64 S, .int .i64 J, .int .i64 N, .int .i64 M]), (w1.heap.size, 45, #[cx x1 y1, cx x2 y2, cx x3 y3]), (w.heap.size + 1, 67, #[.int .i64 re, .int .i64 im, .int .i64 kd, .int .i64 wt, .int .i64 mo]), (w.heap.size, 43, #[.int .i64 re0, .int .i64 im0, .int .i64 k0, .int .i64 re1, .int .i64 im1, .int .i64 k1, .int .i64 re2, .int .i64 im2, .int .i64 k2])] W.drew ∧ RR w17.heap.size 6 48 W.drew) := Lib.hid fun W hb => ⟨hb.1.drew, hb.2⟩
      have BKZ := sv.out _ (sd.out _ BK1)
      have t0 := L17.out.cell (i := 0) (v := .int .i64 R) (List.mem_cons_self ..) rfl
      have t1 := L17.out.cell (i := 1) (v := .int .i64 I) (List.mem_cons_self ..) rfl
      have t2 := L17.out.frozen (i := 0) (List.mem_cons_self ..)
      have t3 := L17.out.frozen (i := 1) (List.mem_cons_self ..)
      go_region_held3 (fun W => (LW w 0 [(w16.heap.size, 39, #[.int .i64 a, .int .i64 b]), (w6.heap.size + 1, 48, #[.int .i64 (R + S), .int .i64 (I + J), .int .i64 S, .int .i64 J, .int .i64 N, .int .i64 M]), (w6.heap.size, 45, #[.complex .f64 0 0, .complex .f64 0 0, .complex .f64 0 0]), (g, 45, #[cx (wd false (partF R a wt)) (wd false (partF I b wt)), cx (wd false S) (wd false J), cx (wd false N) (wd false M)]), (w3.heap.size, 45, #[cx (wd false (R + S)) (wd false (I + J)), cx (wd false S) (wd false J), cx (wd false N) (wd false M)]), (w2.heap.size, 48, #[.int .i64 R, .int .i64 I, .int .i64 S, .int .i64 J, .int .i64 N, .int .i64 M]), (w1.heap.size, 45, #[cx x1 y1, cx x2 y2, cx x3 y3]), (w.heap.size + 1, 67, #[.int .i64 re, .int .i64 im, .int .i64 kd, .int .i64 wt, .int .i64 mo]), (w.heap.size, 43, #[.int .i64 re0, .int .i64 im0, .int .i64 k0, .int .i64 re1, .int .i64 im1, .int .i64 k1, .int .i64 re2, .int .i64 im2, .int .i64 k2])] W ∧ RR w17.heap.size 6 48 W) ∧ W.cell? ⟨w2.heap.size, 0, none⟩ = some (.int .i64 R) ∧ W.cell? ⟨w2.heap.size, 1, none⟩ = some (.int .i64 I) ∧ W.cell? ⟨w16.heap.size, 0, none⟩ = some (.int .i64 a) ∧ W.cell? ⟨w16.heap.size, 1, none⟩ = some (.int .i64 b) ∧ W.cell? ⟨w.heap.size + 1, 3, none⟩ = some (.int .i64 wt) ∧ W.cell? ⟨w17.heap.size, 0, none⟩ = some (gcell w17.heap.size W 0) ∧ W.cell? ⟨w17.heap.size, 1, none⟩ = some (gcell w17.heap.size W 1) ∧ W.frozen? ⟨w17.heap.size, 0, none⟩ = false ∧ W.frozen? ⟨w17.heap.size, 1, none⟩ = false)
        (first | (with_reducible exact BKZ) | (with_reducible assumption) | (with_reducible exact sv.out _ (sd.out _ (sw.out _ _ _ (sw.out _ _ _ BK1)))))
        (first | (go_at_call 36; refine (part_any _ _ _ (by first | exact (HB1.out HRB.out).1 | exact (HB1.out HRB.out).2.1) (by first | exact (HB1.out HRB.out).2.2.1 | exact (HB1.out HRB.out).2.2.2) HWT.out _).mono ?_; rintro e w18 ⟨rfl, rfl⟩))
      rename_i hK
      clear hK BK1 BKZ sv sw sd t0 t1 t2 t3
      have L18 : Hid (LW w 0 [(w17.heap.size, 48, #[.int .i64 (partF R a wt), .int .i64 (partF I b wt), .int .i64 S, .int .i64 J, .int .i64 N, .int .i64 M]), (w16.heap.size, 39, #[.int .i64 a, .int .i64 b]), (w6.heap.size + 1, 48, #[.int .i64 (R + S), .int .i64 (I + J), .int .i64 S, .int .i64 J, .int .i64 N, .int .i64 M]), (w6.heap.size, 45, #[.complex .f64 0 0, .complex .f64 0 0, .complex .f64 0 0]), (g, 45, #[cx (wd false (partF R a wt)) (wd false (partF I b wt)), cx (wd false S) (wd false J), cx (wd false N) (wd false M)]), (w3.heap.size, 45, #[cx (wd false (R + S)) (wd false (I + J)), cx (wd false S) (wd false J), cx (wd false N) (wd false M)]), (w2.heap.size, 48, #[.int .i64 R, .int .i64 I, .int .i64 S, .int .i64 J, .int .i64 N, .int .i64 M]), (w1.heap.size, 45, #[cx x1 y1, cx x2 y2, cx x3 y3]), (w.heap.size + 1, 67, #[.int .i64 re, .int .i64 im, .int .i64 kd, .int .i64 wt, .int .i64 mo]), (w.heap.size, 43, #[.int .i64 re0, .int .i64 im0, .int .i64 k0, .int .i64 re1, .int .i64 im1, .int .i64 k1, .int .i64 re2, .int .i64 im2, .int .i64 k2])] ((W17.setCell ⟨w17.heap.size, 0, none⟩ (.int .i64 (partF R a wt))).setCell ⟨w17.heap.size, 1, none⟩ (.int .i64 (partF I b wt))).drew) := Lib.hid (((L17.out.setCell (i := 0) NE17.out GE17.out (.int .i64 (partF R a wt))).setCell (i := 1) NE17.out GE17.out (.int .i64 (partF I b wt))).drew)
      clear L17 NE17 GE17
      have f52 := L18.out.cell (i := 0) (v := cx (wd false (partF R a wt)) (wd false (partF I b wt))) (List.mem_cons_of_mem _ (List.mem_cons_of_mem _ (List.mem_cons_of_mem _ (List.mem_cons_of_mem _ (List.mem_cons_self ..))))) rfl
      have f53 := L18.out.cell (i := 1) (v := cx (wd false S) (wd false J)) (List.mem_cons_of_mem _ (List.mem_cons_of_mem _ (List.mem_cons_of_mem _ (List.mem_cons_of_mem _ (List.mem_cons_self ..))))) rfl
      have f54 := L18.out.cell (i := 2) (v := cx (wd false N) (wd false M)) (List.mem_cons_of_mem _ (List.mem_cons_of_mem _ (List.mem_cons_of_mem _ (List.mem_cons_of_mem _ (List.mem_cons_self ..))))) rfl
      have f55 := L18.out.cell (i := 0) (v := .int .i64 (partF R a wt)) (List.mem_cons_self ..) rfl
      have f56 := L18.out.cell (i := 1) (v := .int .i64 (partF I b wt)) (List.mem_cons_self ..) rfl
      have f57 := L18.out.cell (i := 2) (v := .int .i64 S) (List.mem_cons_self ..) rfl
      have f58 := L18.out.cell (i := 3) (v := .int .i64 J) (List.mem_cons_self ..) rfl
      have f59 := L18.out.cell (i := 4) (v := .int .i64 N) (List.mem_cons_self ..) rfl
      have f60 := L18.out.cell (i := 5) (v := .int .i64 M) (List.mem_cons_self ..) rfl
      go_wp2_with fail
      refine (hIP _).mono ?_
      rintro e w19 ⟨rfl, hb⟩
      have Lw19 := Lib.hid (L18.out.bel hb)
      clear hb L18 f52 f53 f54 f55 f56 f57 f58 f59 f60
      clear hIP hP1 hP2
      obtain ⟨qs, hqs⟩ : ∃ q, decide (0 ≤ mo ∧ mo < 1048576) = q := ⟨_, rfl⟩
      rw [hqs, Bool.true_and] at Hs1 Hs2 Hes
      have f61 := Lw19.out.cell (i := 0) (v := .int .i64 re) (List.mem_cons_of_mem _ (List.mem_cons_of_mem _ (List.mem_cons_of_mem _ (List.mem_cons_of_mem _ (List.mem_cons_of_mem _ (List.mem_cons_of_mem _ (List.mem_cons_of_mem _ (List.mem_cons_of_mem _ (List.mem_cons_self ..))))))))) rfl
      have f62 := Lw19.out.cell (i := 1) (v := .int .i64 im) (List.mem_cons_of_mem _ (List.mem_cons_of_mem _ (List.mem_cons_of_mem _ (List.mem_cons_of_mem _ (List.mem_cons_of_mem _ (List.mem_cons_of_mem _ (List.mem_cons_of_mem _ (List.mem_cons_of_mem _ (List.mem_cons_self ..))))))))) rfl
      have f63 := Lw19.out.cell (i := 2) (v := .int .i64 kd) (List.mem_cons_of_mem _ (List.mem_cons_of_mem _ (List.mem_cons_of_mem _ (List.mem_cons_of_mem _ (List.mem_cons_of_mem _ (List.mem_cons_of_mem _ (List.mem_cons_of_mem _ (List.mem_cons_of_mem _ (List.mem_cons_self ..))))))))) rfl
      go_wp2_with fail
      refine (hr _).mono ?_
      rintro e w20 ⟨rfl, hb⟩
      have Lw20 := Lib.hid (Lw19.out.bel hb)
      clear hb Lw19 f61 f62 f63
      clear hr
      have f64 := Lw20.out.cell (i := 4) (v := .int .i64 mo) (List.mem_cons_of_mem _ (List.mem_cons_of_mem _ (List.mem_cons_of_mem _ (List.mem_cons_of_mem _ (List.mem_cons_of_mem _ (List.mem_cons_of_mem _ (List.mem_cons_of_mem _ (List.mem_cons_of_mem _ (List.mem_cons_self ..))))))))) rfl
      by_cases m0 : mo < 0
      · have dm0 : decide (mo < 0) = true := by simpa using m0
        obtain rfl : false = qs := by rw [← hqs]; simp; omega
        clear hqs m0
        obtain rfl : 0 = s1 := gV_r.symm.trans Hs1.out
        obtain rfl : 0 = s2 := gV_r.symm.trans Hs2.out
        obtain rfl : 10 = es := gE_r.symm.trans Hes.out
        clear Hs1 Hs2 Hes
        go_wp2_with fail
        refine (awake_any _).mono ?_
        rintro e wz ⟨rfl, hb⟩
        have Lwz := Lib.hid (Lw20.out.bel hb)
        clear hb Lw20 f64
        go_wp2
        go_ret
        exact ⟨rfl, Lwz.out.below⟩
      have dm0 : decide (mo < 0) = false := by simpa using m0
      by_cases m1 : 1048575 < mo
      · have dm1 : decide (1048575 < mo) = true := by simpa using m1
        obtain rfl : false = qs := by rw [← hqs]; simp; omega
        clear hqs m0 m1
        obtain rfl : 0 = s1 := gV_r.symm.trans Hs1.out
        obtain rfl : 0 = s2 := gV_r.symm.trans Hs2.out
        obtain rfl : 10 = es := gE_r.symm.trans Hes.out
        clear Hs1 Hs2 Hes
        go_wp2_with fail
        refine (awake_any _).mono ?_
        rintro e wz ⟨rfl, hb⟩
        have Lwz := Lib.hid (Lw20.out.bel hb)
        clear hb Lw20 f64
        go_wp2
        go_ret
        exact ⟨rfl, Lwz.out.below⟩
      have dm1 : decide (1048575 < mo) = false := by simpa using m1
      obtain rfl : true = qs := by rw [← hqs]; simp; omega
      have HMO : Hid (0 ≤ mo ∧ mo < 1048576) := Lib.hid (by omega)
      clear hqs m0 m1
      obtain rfl : cutF (a - R) mo = s1 := (gV_y right0).symm.trans Hs1.out
      obtain rfl : cutF (b - I) mo = s2 := (gV_y right0).symm.trans Hs2.out
      obtain rfl : 0 = es := (gE_y right0).symm.trans Hes.out
      obtain ⟨wr1, wr2, _, _, hIS⟩ := HST.out HRB.out HMO.out
      clear Hs1 Hs2 Hes HST
      go_wp2
      clear f64
      have LD20 := Lib.hid Lw20.out.drew
      clear Lw20
      have sv : Hid (∀ W, Below w20.drew.heap.size w20.drew W → Below w20.drew.heap.size w20.drew W ∧ W.cell? ⟨w16.heap.size, 0, none⟩ = some (.int .i64 a) ∧ W.cell? ⟨w16.heap.size, 1, none⟩ = some (.int .i64 b) ∧ W.cell? ⟨w2.heap.size, 0, none⟩ = some (.int .i64 R) ∧ W.cell? ⟨w2.heap.size, 1, none⟩ = some (.int .i64 I) ∧ W.cell? ⟨w.heap.size + 1, 4, none⟩ = some (.int .i64 mo)) := Lib.hid fun W hb => by
        have LL := LD20.out.bel hb
        exact ⟨hb, LL.cell (i := 0) (v := .int .i64 a) (List.mem_cons_of_mem _ (List.mem_cons_self ..)) rfl, LL.cell (i := 1) (v := .int .i64 b) (List.mem_cons_of_mem _ (List.mem_cons_self ..)) rfl, LL.cell (i := 0) (v := .int .i64 R) (List.mem_cons_of_mem _ (List.mem_cons_of_mem _ (List.mem_cons_of_mem _ (List.mem_cons_of_mem _ (List.mem_cons_of_mem _ (List.mem_cons_of_mem _ (List.mem_cons_self ..))))))) rfl, LL.cell (i := 1) (v := .int .i64 I) (List.mem_cons_of_mem _ (List.mem_cons_of_mem _ (List.mem_cons_of_mem _ (List.mem_cons_of_mem _ (List.mem_cons_of_mem _ (List.mem_cons_of_mem _ (List.mem_cons_self ..))))))) rfl, LL.cell (i := 4) (v := .int .i64 mo) (List.mem_cons_of_mem _ (List.mem_cons_of_mem _ (List.mem_cons_of_mem _ (List.mem_cons_of_mem _ (List.mem_cons_of_mem _ (List.mem_cons_of_mem _ (List.mem_cons_of_mem _ (List.mem_cons_of_mem _ (List.mem_cons_self ..))))))))) rfl⟩
      have BK0 := Below.refl w20.drew.heap.size w20.drew
      go_region_held3 (fun W => Below w20.drew.heap.size w20.drew W ∧ W.cell? ⟨w16.heap.size, 0, none⟩ = some (.int .i64 a) ∧ W.cell? ⟨w16.heap.size, 1, none⟩ = some (.int .i64 b) ∧ W.cell? ⟨w2.heap.size, 0, none⟩ = some (.int .i64 R) ∧ W.cell? ⟨w2.heap.size, 1, none⟩ = some (.int .i64 I) ∧ W.cell? ⟨w.heap.size + 1, 4, none⟩ = some (.int .i64 mo))
        (first | (with_reducible exact sv.out _ BK0) | (with_reducible assumption) | (with_reducible exact sv.out _ (bt (And.left (by assumption)) hbw)))
        (first | (go_at_call 37; refine (cut_any _ _ HMO.out _).mono ?_; rintro e w_ ⟨rfl, rfl⟩) | (go_at_call 28; refine (hIS _).mono ?_; rintro e w_ ⟨rfl, hbw⟩) | (go_at_call 11; refine (awake_any _).mono ?_; rintro e w_ ⟨rfl, hbw⟩))
      rename_i hK
      have LZ := LD20.out.bel hK.1
      clear hK
      go_wp2
      go_ret
      exact ⟨rfl, LZ.below⟩
end Go.Proofs.Ytbgllbjkmjlipaa
