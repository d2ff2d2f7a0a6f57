/- Contract: Fence, of points that may be. -/
import Derived.Shelf.RegionOpen
import Derived.Test.YtbgllbjkmjlipaaO
namespace Go.Proofs.Ytbgllbjkmjlipaa
open Go.RowKit Go.Shelf
attribute [local go_sem] Oper.semAt_some
attribute [local go_sem] fmt64

theorem ways_stops (n : Nat) (hn : 1 ≤ n) (Bs n₀ b off m cap : Nat) (zs : List GP) (hz : zs.length = m + 1) (hm : m < 1000) (hb : b < n₀) (w : World) (hBs : Bs < w.heap.size) (hn₀ : n₀ ≤ w.heap.size)
    (hc : w.cell? ⟨Bs, 0, none⟩ = some (.slice (some ⟨b, off, none⟩) (m + 1) cap)) (hI : ∀ j, j < m + 1 → w.cell? ⟨b, off + j, none⟩ = some (cx (gx (gat zs j)) (gy (gat zs j)))) :
    SeqStopsK Fence.wide n Try.prog 69 #[.pointer (some ⟨Bs, 0, none⟩)] (fun x : GP × GP => #[cx (gx x.1) (gy x.1), cx (gx x.2) (gy x.2)]) (Below n₀) (fun ys => ys = upto (way zs) (m + 1))
      (fun pre => ∃ k, k ≤ m + 1 ∧ pre = upto (way zs) k) (m + 1) w := fun l J Jx W hW _ _ hY h0 =>
  ways1_in Fence.wide n trivial rfl hn l Bs n₀ b off m cap zs hz hm hb J Jx hY W ((hW.cell (p := ⟨Bs, 0, none⟩) hBs).trans hc) (fun j hj => (hW.cell (p := ⟨b, off + j, none⟩) (show b < w.heap.size by omega)).trans (hI j hj)) h0

/-- What is held between two rounds. -/
def FI (w : World) (x y g : Nat) (u v : Int) (pre : List (GP × GP)) (W : World) : Prop :=
  ((∀ q ∈ pre, onW u v q = false) ∧ Boxed W w.heap.size 31 (cx x y) ∧ Boxed W (w.heap.size + 1) 4 (.bool false) ∧ Boxed W (w.heap.size + 1 + 1) 26 (.int .i64 0) ∧ Boxed W g 4 (.bool (oddW u v pre))) ∧ Below w.heap.size w W
/-- A round has returned. -/
def FX (w : World) (u v : Int) (c : Code) (pre : List (GP × GP)) (W : World) : Prop :=
  (c = .ret ∧ (∃ q ∈ pre, onW u v q = true) ∧ Boxed W (w.heap.size + 1) 4 (.bool true) ∧ Boxed W (w.heap.size + 1 + 1) 26 (.int .i64 0)) ∧ Below w.heap.size w W
theorem boxed_kept {A B : World} {row : Option Nat} {k : Nat} {t : TypeId} {v : Value} (h : Boxed A k t v) (hg : A.grownBy B row) (hr : ∀ r, row = some r → ∃ o : Obj, A.heap[r]? = some o ∧ o.isCells = false) : Boxed B k t v :=
  boxed_own (β := Unit) k t (fun _ => v) () A B row h hg hr
theorem fi_own {w : World} {x y g D : Nat} {u v : Int} (hD : w.heap.size ≤ D) : OwnFrom D (FI w x y g u v) :=
  OwnFrom.and (Own.from (fun _ _ _ _ hs hg hr => ⟨hs.1, boxed_kept hs.2.1 hg hr, boxed_kept hs.2.2.1 hg hr, boxed_kept hs.2.2.2.1 hg hr, boxed_kept hs.2.2.2.2 hg hr⟩) _) (ownFrom_below (Nat.le_refl _) hD)
theorem fx_own {w : World} {D : Nat} {u v : Int} (hD : w.heap.size ≤ D) (c : Code) : OwnFrom D (FX w u v c) :=
  OwnFrom.and (Own.from (fun _ _ _ _ hs hg hr => ⟨hs.1, hs.2.1, boxed_kept hs.2.2.1 hg hr, boxed_kept hs.2.2.2 hg hr⟩) _) (ownFrom_below (Nat.le_refl _) hD)

theorem fence_no {u v : Int} {l : List (GP × GP)} (h : ∀ q ∈ l, onW u v q = false) : fenceW u v l = oddW u v l := by
  unfold fenceW
  rw [show l.any (onW u v) = false from List.any_eq_false.2 (fun q hq => by rw [h q hq]; simp), Bool.false_or]
theorem fence_yes {u v : Int} {f : Nat → GP × GP} {k n : Nat} {q : GP × GP} (hq : q ∈ upto f k) (hk : k ≤ n) (h : onW u v q = true) : fenceW u v (upto f n) = true := by
  unfold fenceW
  obtain ⟨i, hi, rfl⟩ := List.mem_map.1 hq
  rw [show (upto f n).any (onW u v) = true from List.any_eq_true.2 ⟨f i, List.mem_map.2 ⟨i, by simp at hi ⊢; omega, rfl⟩, h⟩, Bool.true_or]
theorem fbody_ret {w W W1 : World} {x y g B : Nat} {u v : Int} {pre : List (GP × GP)} {q : GP × GP} (h : FI w x y g u v pre W1) (hk : KeepsFrom B W W1) (ho : onW u v q = true) :
    KeepsFrom B W ((W1.setCell ⟨w.heap.size + 1, 0, none⟩ (.bool true)).setCell ⟨w.heap.size + 1 + 1, 0, none⟩ (.int .i64 0)) ∧ FX w u v .ret (pre ++ [q]) ((W1.setCell ⟨w.heap.size + 1, 0, none⟩ (.bool true)).setCell ⟨w.heap.size + 1 + 1, 0, none⟩ (.int .i64 0)) :=
  ⟨hk.trans (((KeepsOthers.setCell _ _ _).trans (KeepsOthers.setCell _ _ _)).from _), ⟨rfl, ⟨q, by simp, ho⟩, (h.1.2.2.1.set _).kept (grownBy_setCell' _ _ _) (by simp), (h.1.2.2.2.1.kept (grownBy_setCell' _ _ _) (by simp)).set _⟩, (h.2.setCell (by simp) _).setCell (by simp <;> omega) _⟩
theorem fbody_same {w W W1 : World} {x y g B : Nat} {u v : Int} {pre : List (GP × GP)} {q : GP × GP} (h : FI w x y g u v pre W1) (hk : KeepsFrom B W W1) (hb : Below w.heap.size W W1) (ho : onW u v q = false) (hf : flW u v q = false) :
    KeepsFrom B W W1 ∧ Below w.heap.size W W1 ∧ FI w x y g u v (pre ++ [q]) W1 :=
  ⟨hk, hb, ⟨fun r hr => (List.mem_append.1 hr).elim (h.1.1 r) (fun e => by simp at e; subst e; exact ho), h.1.2.1, h.1.2.2.1, h.1.2.2.2.1, by rw [oddW_snoc, hf, Bool.xor_false]; exact h.1.2.2.2.2⟩, h.2⟩
theorem fbody_flip {w W W1 : World} {x y g B : Nat} {u v : Int} {pre : List (GP × GP)} {q : GP × GP} (h : FI w x y g u v pre W1) (hg : w.heap.size + 1 + 1 + 1 ≤ g) (hk : KeepsFrom B W W1) (hb : Below w.heap.size W W1) (ho : onW u v q = false) (hf : flW u v q = true) :
    KeepsFrom B W (W1.setCell ⟨g, 0, none⟩ (.bool (!oddW u v pre))) ∧ Below w.heap.size W (W1.setCell ⟨g, 0, none⟩ (.bool (!oddW u v pre))) ∧ FI w x y g u v (pre ++ [q]) (W1.setCell ⟨g, 0, none⟩ (.bool (!oddW u v pre))) :=
  ⟨hk.trans ((KeepsOthers.setCell _ _ _).from _), hb.setCell (show w.heap.size ≤ g by omega) _, ⟨fun r hr => (List.mem_append.1 hr).elim (h.1.1 r) (fun e => by simp at e; subst e; exact ho),
    h.1.2.1.kept (grownBy_setCell' _ _ _) (by simp <;> omega), h.1.2.2.1.kept (grownBy_setCell' _ _ _) (by simp <;> omega), h.1.2.2.2.1.kept (grownBy_setCell' _ _ _) (by simp <;> omega), by rw [oddW_snoc, hf, Bool.xor_true]; exact h.1.2.2.2.2.set _⟩, h.2.setCell (show w.heap.size ≤ g by omega) _⟩

set_option maxRecDepth 100000 in
set_option maxHeartbeats 2000000 in
theorem fence_in (b off m cap : Nat) (zs : List GP) (hz : zs.length = m + 1) (hm3 : 2 ≤ m) (hm : m < 1000) (z : GP) (w : World) (hp : Gps w w.heap.size (some ⟨b, off, none⟩) zs) :
    CallsIn Fence.wide 8 Try.prog 12 #[.slice (some ⟨b, off, none⟩) (m + 1) cap, cx (gx z) (gy z)] w fun e w' => e = .returned (.tuple #[.bool (fenceW z.1.re z.1.im (upto (way zs) (m + 1))), .int .i64 0]) ∧ Below w.heap.size w w' := by
  have d1 : decide (((m : Int) + 1) < 3) = false := by simp <;> omega
  have f0 := F3.new w (gx z) (gy z)
  have hb : b < w.heap.size := by
    obtain ⟨b', off', e, h, _⟩ := hp 0 (by omega)
    cases e; exact h
  have hcs : ∀ j, j < m + 1 → w.cell? ⟨b, off + j, none⟩ = some (cx (gx (gat zs j)) (gy (gat zs j))) := fun j hj => by
    obtain ⟨b', off', e, _, h⟩ := hp j (by omega)
    cases e; exact h
  have ha := all_any (some ⟨b, off, none⟩) (m + 1) cap (fun k => gx (gat zs k)) (fun k => gy (gat zs k)) (by omega) _ (((by rw [Gps, hz] at hp; exact hp : Pts w w.heap.size _ (m + 1) _).below f0.below).more (by have := f0.size; omega))
  rw [allB_yes (fun k _ => by have := gp_bd (gat zs k); unfold gx gy; rw [may_wd _ _ _ _ (by omega) (by omega)]; exact decide_eq_true (by omega))] at ha
  have hmz := may_any (gx z) (gy z)
  rw [show mayZ (gx z) (gy z) = true by have := gp_bd z; unfold gx gy; rw [may_wd _ _ _ _ (by omega) (by omega)]; exact decide_eq_true (by omega)] at hmz
  have F0 := Lib.hid f0
  have HC := Lib.hid hcs
  clear f0 hp hcs
  refine callsIn_of_wp_marks Try.func12 rfl trivial ?_ rfl
  simp only [Try.ntmps12, List.size_toArray, List.length_cons, List.length_nil, Nat.reduceAdd, Nat.reduceSub, Array.replicate_succ, Array.replicate_zero, List.push_toArray, List.append_toArray, List.nil_append, List.cons_append]
  gi_wp2_with fail
  refine ⟨trivial, ?_⟩
  gi_at_call 46
  refine (callsIn_wide.2 ha).mono ?_
  rintro e w1 ⟨rfl, hb1⟩
  have F1 := Lib.hid (F0.out.bel hb1)
  have z0 := F1.out.b0.cell
  clear hb1 F0 ha
  gi_wp2_with fail
  refine ⟨trivial, ?_⟩
  gi_at_call 30
  refine (callsIn_wide.2 (hmz _)).mono ?_
  rintro e w2 ⟨rfl, hb2⟩
  have F2 := Lib.hid (F1.out.bel hb2)
  clear hb2 F1 hmz z0
  gi_wp2_with (refine ⟨trivial, ?_⟩; gi_at_call 47; refine (callsIn_wide.2 (ways_any _ _ _ _)).mono ?_; rintro e w' ⟨rfl, rfl⟩)
  obtain ⟨W0, hW0⟩ : ∃ W0, ((w2.alloc (Obj.cells #[Value.bool false] 4)).alloc (Obj.cells #[Value.slice (some { block := b, off := off }) (m + 1) cap] 29)) = W0 := ⟨_, rfl⟩
  have hs2 := F2.out.size
  have hsz : W0.heap.size = w2.heap.size + 2 := by rw [← hW0]; simp
  have bb : Below w2.heap.size w2 W0 := by rw [← hW0]; exact ((Below.refl _ _).alloc (Nat.le_refl _) _).alloc (by simp) _
  have bS : Boxed W0 (w2.heap.size + 1) 29 (.slice (some ⟨b, off, none⟩) (m + 1) cap) := by rw [← hW0]; exact boxed_at (by simp) 29 _
  have bO : Boxed W0 w2.heap.size 4 (.bool false) := by rw [← hW0]; exact (Boxed.new _ _ _).alloc _
  have f3 := F2.out.bel bb
  rw [hW0]
  clear hW0 bb F2
  refine wpIn_rangeFunc_ownG rfl (by omega) (gf := 69) (lb := #[.pointer (some ⟨w2.heap.size + 1, 0, none⟩)]) rfl trivial (enters_of Try.func69 (by kernel_rfl) rfl)
    (ways_stops 7 (by omega) (w2.heap.size + 1) w.heap.size b off m cap zs hz hm hb W0 (by omega) (by omega) bS.cell (fun j hj => (f3.below.cell (p := ⟨b, off + j, none⟩) hb).trans (HC.out j hj))) belowK_t (belowK_b (by omega)) (Below.refl _ _) (fun _ => rfl)
    (FI w (gx z) (gy z) w2.heap.size z.1.re z.1.im) (FX w z.1.re z.1.im) (fi_own (by omega)) (fun c => fx_own (by omega) c)
    ⟨⟨by simp, f3.b0, f3.b1, f3.b2, bO⟩, f3.below⟩
    (fun x => { tmps := #[.slice (some ⟨b, off, none⟩) (m + 1) cap, cx (gx z) (gy z), undef, .pointer (some ⟨w.heap.size, 0, none⟩), .pointer (some ⟨w.heap.size + 1, 0, none⟩), .pointer (some ⟨w.heap.size + 1 + 1, 0, none⟩), .pointer (some ⟨w2.heap.size, 0, none⟩), cx (gx x.1) (gy x.1), cx (gx x.2) (gy x.2), undef, .slice (some ⟨b, off, none⟩) (m + 1) cap, .int .i64 (m + 1), .bool false, .slice (some ⟨b, off, none⟩) (m + 1) cap, .bool true, .bool false, .bool false, cx (gx z) (gy z), .bool true, .bool false, .bool false, .slice (some ⟨b, off, none⟩) (m + 1) cap, .func (.func 69) #[] #[.pointer (some ⟨w2.heap.size + 1, 0, none⟩)], cx (gx x.1) (gy x.1), cx (gx x.2) (gy x.2), undef, undef, undef, undef, undef, undef, undef, undef, undef, undef, undef, undef, undef, undef, undef, undef, undef, undef, undef, undef, undef, undef, undef, undef, undef, undef, undef, undef], defers := [] }) ?assign ?body ?done ?stop
  case assign =>
    intro l x W K hK
    gi_wp2
    exact hK
  case body =>
    rintro l pre x W hI hlp
    have hgz := gp_bd z
    have hg1 := gp_bd x.1
    have hg2 := gp_bd x.2
    have HO : Hid (onW z.1.re z.1.im x = onB (x.1.1.re - z.1.re) (x.1.1.im - z.1.im) (x.2.1.re - z.1.re) (x.2.1.im - z.1.im)) := Lib.hid rfl
    have HF : Hid (flW z.1.re z.1.im x = flipB (x.1.1.re - z.1.re) (x.1.1.im - z.1.im) (x.2.1.re - z.1.re) (x.2.1.im - z.1.im)) := Lib.hid rfl
    have HI := Lib.hid hI
    obtain ⟨s1, t1, e1⟩ := cSum_sub x.1.1.s x.1.1.t z.1.s z.1.t x.1.1.re x.1.1.im z.1.re z.1.im (by omega) (by omega) (by omega) (by omega)
    obtain ⟨s2, t2, e2⟩ := cSum_sub x.2.1.s x.2.1.t z.1.s z.1.t x.2.1.re x.2.1.im z.1.re z.1.im (by omega) (by omega) (by omega) (by omega)
    have n1 : (x.1.1.re - z.1.re).natAbs < 4194304 := by omega
    have n2 : (x.1.1.im - z.1.im).natAbs < 4194304 := by omega
    have n3 : (x.2.1.re - z.1.re).natAbs < 4194304 := by omega
    have n4 : (x.2.1.im - z.1.im).natAbs < 4194304 := by omega
    generalize x.1.1.re - z.1.re = A at e1 n1 HO HF
    generalize x.1.1.im - z.1.im = B at e1 n2 HO HF
    generalize x.2.1.re - z.1.re = C at e2 n3 HO HF
    generalize x.2.1.im - z.1.im = D at e2 n4 HO HF
    have r1 : ∀ W, (binOp .sub 31 (.complex .f64 (gx x.1) (gy x.1)) (.complex .f64 (gx z) (gy z))).run Try.prog W = .ok (.complex .f64 (wd s1 A) (wd t1 B)) W := fun W => run_complex_sum W .sub (.inr rfl) 31 .f64 _ _ _ _ _ _ e1
    have r2 : ∀ W, (binOp .sub 31 (.complex .f64 (gx x.2) (gy x.2)) (.complex .f64 (gx z) (gy z))).run Try.prog W = .ok (.complex .f64 (wd s2 C) (wd t2 D)) W := fun W => run_complex_sum W .sub (.inr rfl) 31 .f64 _ _ _ _ _ _ e2
    have hon := on_any s1 t1 s2 t2 A B C D n1 n2 n3 n4
    have hcr := cross_any s1 t1 s2 t2 A B C D n1 n2 n3 n4
    have m1 := mul_bd n1 n4
    have m2 := mul_bd n2 n3
    have g1 := gt0 t2 D (by omega)
    have g2 := gt0 t1 B (by omega)
    have g3 := fun s => gt0 s (A * D - B * C) (by omega)
    clear e1 e2 hgz hg1 hg2 m1 m2
    obtain ⟨⟨_, hz0, hz1, hz2, ho⟩, _⟩ := hI
    have c0 := hz0.cell
    clear hz0
    generalize onB A B C D = q at hon HO
    generalize hfl : flipB A B C D = fl at HF
    unfold flipB at hfl
    generalize A * D - B * C = P at hcr g3 hfl
    generalize decide (0 < D) = d at g1 hfl
    generalize decide (0 < B) = bq at g2 hfl
    generalize decide (0 < P) = p at g3 hfl
    have hmx : Try.prog.follows .mixedOrders = true := by kernel_rfl
    gi_wp2
    refine wpIn_mono (Q := fun e a w' => e = .normal ∧ a = ({ tmps := #[.slice (some ⟨b, off, none⟩) (m + 1) cap, cx (gx z) (gy z), undef, .pointer (some ⟨w.heap.size, 0, none⟩), .pointer (some ⟨w.heap.size + 1, 0, none⟩), .pointer (some ⟨w.heap.size + 1 + 1, 0, none⟩), .pointer (some ⟨w2.heap.size, 0, none⟩), .complex .f64 (wd s1 A) (wd t1 B), .complex .f64 (wd s2 C) (wd t2 D), undef, .slice (some ⟨b, off, none⟩) (m + 1) cap, .int .i64 (m + 1), .bool false, .slice (some ⟨b, off, none⟩) (m + 1) cap, .bool true, .bool false, .bool false, cx (gx z) (gy z), .bool true, .bool false, .bool false, .slice (some ⟨b, off, none⟩) (m + 1) cap, .func (.func 69) #[] #[.pointer (some ⟨w2.heap.size + 1, 0, none⟩)], cx (gx x.1) (gy x.1), cx (gx x.2) (gy x.2), cx (gx x.1) (gy x.1), cx (gx z) (gy z), .complex .f64 (wd s1 A) (wd t1 B), cx (gx x.2) (gy x.2), cx (gx z) (gy z), .complex .f64 (wd s2 C) (wd t2 D), undef, undef, undef, undef, undef, undef, undef, undef, undef, undef, undef, undef, undef, undef, undef, undef, undef, undef, undef, undef, undef, undef], defers := [] } : Act) ∧ W.drew = w') ?reg ?_
    case reg =>
      clear hon hcr g1 g2 g3 HO HF HI hz1 hz2 ho hfl d1 HC bS bO f3 n1 n2 n3 n4
      gi_region_with_o (fail)
      all_goals exact ⟨rfl, rfl, rfl⟩
    rintro e a W1 ⟨rfl, rfl, hW1⟩
    have j1 : Boxed W1 (w.heap.size + 1) 4 (.bool false) := by rw [← hW1]; exact hz1
    have j2 : Boxed W1 (w.heap.size + 1 + 1) 26 (.int .i64 0) := by rw [← hW1]; exact hz2
    have jo : Boxed W1 w2.heap.size 4 (.bool (oddW z.1.re z.1.im pre)) := by rw [← hW1]; exact ho
    have jI : FI w (gx z) (gy z) w2.heap.size z.1.re z.1.im pre W1 := by rw [← hW1]; exact ⟨HI.out.1, HI.out.2.drew⟩
    have jk : KeepsFrom W0.heap.size W W1 := by rw [← hW1]; exact (KeepsOthers.drew _).from _
    have jb : Below w.heap.size W W1 := by rw [← hW1]; exact (Below.refl _ _).drew
    clear hW1 hz1 hz2 ho HI hmx r1 r2 c0
    have HI := Lib.hid jI
    have c1 := j1.cell
    have c2 := j1.frozen
    have c3 := j2.cell
    have c4 := j2.frozen
    have c5 := jo.cell
    have c6 := jo.frozen
    have JK := Lib.hid jk
    have JB := Lib.hid jb

    
    have J1 := Lib.hid j1
    have J2 := Lib.hid j2
    have JO := Lib.hid jo
    clear jI jk jb j1 j2 jo
    gi_wp2_with fail
    refine ⟨trivial, ?_⟩
    gi_at_call 48
    refine (CallsIn.inRound l (callsIn_wide.2 (hon _))).mono ?_
    rintro e w' ⟨rfl, rfl⟩
    clear hon
    cases q with
    | true =>
      gi_wp2
      exact fbody_ret HI.out JK.out HO.out
    | false =>
      cases d with
      | false =>
        cases bq with
        | false =>
          obtain rfl : fl = false := by rw [← hfl]; rfl
          gi_wp2
          refine ⟨trivial, ?_⟩
          gi_wp2
          exact fbody_same HI.out JK.out JB.out HO.out HF.out
        | true =>
          cases p with
          | false =>
            obtain rfl : fl = true := by rw [← hfl]; rfl
            gi_wp2_with fail
            refine ⟨trivial, ?_⟩
            gi_at_call 49
            refine (CallsIn.inRound l (callsIn_wide.2 (hcr _))).mono ?_
            rintro e w' ⟨⟨s, rfl⟩, rfl⟩
            gi_wp2
            exact fbody_flip HI.out hs2 JK.out JB.out HO.out HF.out
          | true =>
            obtain rfl : fl = false := by rw [← hfl]; rfl
            gi_wp2_with fail
            refine ⟨trivial, ?_⟩
            gi_at_call 49
            refine (CallsIn.inRound l (callsIn_wide.2 (hcr _))).mono ?_
            rintro e w' ⟨⟨s, rfl⟩, rfl⟩
            gi_wp2
            exact fbody_same HI.out JK.out JB.out HO.out HF.out
      | true =>
        cases bq with
        | false =>
          cases p with
          | false =>
            obtain rfl : fl = false := by rw [← hfl]; rfl
            gi_wp2_with fail
            refine ⟨trivial, ?_⟩
            gi_at_call 49
            refine (CallsIn.inRound l (callsIn_wide.2 (hcr _))).mono ?_
            rintro e w' ⟨⟨s, rfl⟩, rfl⟩
            gi_wp2
            exact fbody_same HI.out JK.out JB.out HO.out HF.out
          | true =>
            obtain rfl : fl = true := by rw [← hfl]; rfl
            gi_wp2_with fail
            refine ⟨trivial, ?_⟩
            gi_at_call 49
            refine (CallsIn.inRound l (callsIn_wide.2 (hcr _))).mono ?_
            rintro e w' ⟨⟨s, rfl⟩, rfl⟩
            gi_wp2
            exact fbody_flip HI.out hs2 JK.out JB.out HO.out HF.out
        | true =>
          obtain rfl : fl = false := by rw [← hfl]; rfl
          gi_wp2
          refine ⟨trivial, ?_⟩
          gi_wp2
          exact fbody_same HI.out JK.out JB.out HO.out HF.out
  case done =>
    rintro D ys W hD rfl hI hK
    have HI := Lib.hid hI
    have HK := Lib.hid hK
    have HD := Lib.hid hD
    obtain ⟨⟨hno, _, j1, j2, jo⟩, jb⟩ := hI
    have HN := Lib.hid (fence_no hno)
    have c1 := j1.cell
    have c2 := j1.frozen
    have c3 := j2.cell
    have c4 := j2.frozen
    have c5 := jo.cell
    clear hno j1 j2 jo jb hK hD
    gi_wp2
    have hK' := ((KeepsOthers.setCell W ⟨w.heap.size + 1, 0, none⟩ (.bool (oddW z.1.re z.1.im (upto (way zs) (m + 1))))).trans (KeepsOthers.setCell _ ⟨w.heap.size + 1 + 1, 0, none⟩ (.int .i64 0))).same D _ HK.out rfl
    have hD := HD.out
    refine ⟨by simp, .inl ⟨_, _, rfl, run_takeDeferred hK', ?_⟩⟩
    have gP := grownBy_putObj' ((W.setCell ⟨w.heap.size + 1, 0, none⟩ (.bool (oddW z.1.re z.1.im (upto (way zs) (m + 1))))).setCell ⟨w.heap.size + 1 + 1, 0, none⟩ (.int .i64 0)) D (.deferred none)
    refine ⟨.tuple #[.bool (oddW z.1.re z.1.im (upto (way zs) (m + 1))), .int .i64 0], res12 _ _ (w.heap.size + 1) (w.heap.size + 1 + 1) _ 0 rfl rfl (Boxed.kept ((HI.out.1.2.2.1.set _).kept (grownBy_setCell' _ _ _) (by simp)) gP (by simp <;> omega)).cell (Boxed.kept ((HI.out.1.2.2.2.1.kept (grownBy_setCell' _ _ _) (by simp)).set _) gP (by simp <;> omega)).cell, by rw [HN.out], ?_⟩
    exact ((HI.out.2.setCell (by simp) _).setCell (by simp <;> omega) _).trans (belowK_b (w := w) (Nat.le_refl _) _ D _ _ (by omega) hK' rfl rfl)
  case stop =>
    rintro D c pre W hD ⟨k, hk, rfl⟩ ⟨⟨rfl, ⟨q, hq, hqo⟩, j1, j2⟩, jb⟩ hK
    have HY := Lib.hid (fence_yes (n := m + 1) hq hk hqo)
    gi_wp2
    refine ⟨by simp, .inl ⟨_, _, rfl, run_takeDeferred hK, ?_⟩⟩
    have gP := grownBy_putObj' W D (.deferred none)
    refine ⟨.tuple #[.bool true, .int .i64 0], res12 _ _ (w.heap.size + 1) (w.heap.size + 1 + 1) _ 0 rfl rfl (Boxed.kept j1 gP (by simp <;> omega)).cell (Boxed.kept j2 gP (by simp <;> omega)).cell, by rw [HY.out], ?_⟩
    exact jb.trans (belowK_b (w := w) (Nat.le_refl _) _ D _ _ (by omega) hK rfl rfl)
end Go.Proofs.Ytbgllbjkmjlipaa
