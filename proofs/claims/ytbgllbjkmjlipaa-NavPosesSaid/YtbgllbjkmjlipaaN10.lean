/- Contract: the document's Decode. -/
import Derived.Test.YtbgllbjkmjlipaaN9
namespace Go.Proofs.Ytbgllbjkmjlipaa
open Go.RowKit
attribute [local go_sem] fmt64
attribute [local go_sem ↓] st48
attribute [local go_sem] st48_run rr48 World.setRow_alloc_new

/-- The parts of a word's number. -/
def lo32 (x : Nat) : Int := s32 (x % 4294967296)
def hi32 (x : Nat) : Int := s32 (x / 4294967296)
theorem LW.swap2 {w W : World} {k : Nat} {x y : MRow} {L : List MRow} (h : LW w k (x :: y :: L) W) : LW w k (y :: x :: L) W :=
  ⟨fun z hz => h.rows z (by rcases List.mem_cons.1 hz with rfl | hz; exact List.mem_cons_of_mem _ (List.mem_cons_self ..); rcases List.mem_cons.1 hz with rfl | hz; exact List.mem_cons_self ..; exact List.mem_cons_of_mem _ (List.mem_cons_of_mem _ hz)), h.below, h.size⟩
theorem res48 {fn : Func} {p q : Tmp} (hf : fn.results = #[.cell p 48, .tmp q]) {W : World} {g : Nat} (hr : RR g 6 48 W) (tmps : Array Value) (R I S J N M e : Int)
    (hp : tmps.getD p undef = .pointer (some ⟨g, 0, none⟩)) (hq : tmps.getD q undef = .int .i64 e) {Q : Ending → World → Prop}
    (hQ : Q (.returned (.tuple #[pz R I S J N M, .int .i64 e])) (W.setRow g #[.int .i64 R, .int .i64 I, .int .i64 S, .int .i64 J, .int .i64 N, .int .i64 M])) :
    bodyPost Try.prog fn Q .ret { tmps := tmps, defers := [] } (W.setRow g #[.int .i64 R, .int .i64 I, .int .i64 S, .int .i64 J, .int .i64 N, .int .i64 M]) := by
  refine bodyPost_ret (results_row_tmp hf _ _ g 48 #[.int .i64 R, .int .i64 I, .int .i64 S, .int .i64 J, .int .i64 N, .int .i64 M] (0, 0) _ hp (hr.setRow_row _) Try.underlying48 rfl (by kernel_rfl)) rfl ?_
  rw [hq]
  exact hQ

set_option maxRecDepth 100000 in
theorem rdecode_len (A : Option Addr) (n cap : Nat) (_hn : n ≤ 100) (h3 : n ≠ 3) (w : World) : Calls Try.prog 45 #[.slice A n cap] w fun e w' => e = .returned (.tuple #[pz 0 0 0 0 0 0, .int .i64 17]) ∧ Below w.heap.size w w' := by
  have d0 : ((n : Int) != 3) = true := by simp [bne]; omega
  have hr : RR w.heap.size 6 48 (w.alloc (.cells #[.int .i64 0, .int .i64 0, .int .i64 0, .int .i64 0, .int .i64 0, .int .i64 0] 48)) := rr48 _ _ _ _ _ _ _
  have HB := Lib.hid (bt_alloc (Below.refl w.heap.size w) (.cells #[.int .i64 0, .int .i64 0, .int .i64 0, .int .i64 0, .int .i64 0, .int .i64 0] 48))
  go_enter Try.func45, Try.ntmps45
  go_wp2
  exact bodyPost_ret (results_row_tmp rfl _ _ w.heap.size 48 #[.int .i64 0, .int .i64 0, .int .i64 0, .int .i64 0, .int .i64 0, .int .i64 0] (0, 0) _ rfl (heap_alloc_new _ _) Try.underlying48 rfl (by kernel_rfl)) rfl ⟨rfl, HB.out⟩

set_option maxRecDepth 100000 in
set_option maxHeartbeats 4000000 in
theorem rdecode_any (A : Option Addr) (cap : Nat) (x0 x1 x2 : Nat) (h0 : x0 < 18446744073709551616) (h1 : x1 < 18446744073709551616) (h2 : x2 < 18446744073709551616) (b off : Nat) (hA : A = some ⟨b, off, none⟩) (w : World) (hb : b < w.heap.size) (c0 : w.cell? ⟨b, off, none⟩ = some (.int .u64 x0)) (c1 : w.cell? ⟨b, off + 1, none⟩ = some (.int .u64 x1)) (c2 : w.cell? ⟨b, off + 2, none⟩ = some (.int .u64 x2)) :
    Calls Try.prog 45 #[.slice A 3 cap] w fun e w' => e = .returned (if ckF (lo32 x0) (hi32 x0) (lo32 x1) (hi32 x1) (lo32 x2) (hi32 x2) = 0 then .tuple #[pz (lo32 x0) (hi32 x0) (lo32 x1) (hi32 x1) (lo32 x2) (hi32 x2), .int .i64 0] else .tuple #[pz 0 0 0 0 0 0, .int .i64 11]) ∧ Below w.heap.size w w' := by
  subst hA
  have n0 := number_any x0 h0
  have n1 := number_any x1 h1
  have n2 := number_any x2 h2
  have L0 := Lib.hid ((LW.nil w).new 48 #[.int .i64 0, .int .i64 0, .int .i64 0, .int .i64 0, .int .i64 0, .int .i64 0])
  have hck := rcheck_any (lo32 x0) (hi32 x0) (lo32 x1) (hi32 x1) (lo32 x2) (hi32 x2)
  have HC : Hid (∀ W, Below w.heap.size w W → W.cell? ⟨b, off, none⟩ = some (.int .u64 x0) ∧ W.cell? ⟨b, off + 1, none⟩ = some (.int .u64 x1) ∧ W.cell? ⟨b, off + 2, none⟩ = some (.int .u64 x2)) := Lib.hid fun W h => ⟨(h.cell (p := ⟨b, off, none⟩) hb).trans c0, (h.cell (p := ⟨b, off + 1, none⟩) hb).trans c1, (h.cell (p := ⟨b, off + 2, none⟩) hb).trans c2⟩
  have gen : ∀ x, s32 (x % 4294967296) = lo32 x ∧ s32 (x / 4294967296) = hi32 x := fun x => ⟨rfl, rfl⟩
  rw [(gen x0).1, (gen x0).2] at n0
  rw [(gen x1).1, (gen x1).2] at n1
  rw [(gen x2).1, (gen x2).2] at n2
  clear gen c0 c1 c2 h0 h1 h2
  generalize lo32 x0 = R at *
  generalize hi32 x0 = I at *
  generalize lo32 x1 = S at *
  generalize hi32 x1 = J at *
  generalize lo32 x2 = N at *
  generalize hi32 x2 = M at *
  generalize ckF R I S J N M = ck at *
  obtain ⟨ans, hans⟩ : ∃ x, (if ck = 0 then (Value.tuple #[pz R I S J N M, .int .i64 0]) else .tuple #[pz 0 0 0 0 0 0, .int .i64 11]) = x := ⟨_, rfl⟩
  rw [hans]
  go_enter Try.func45, Try.ntmps45
  go_wp2
  generalize hW : w.alloc (.cells #[.int .i64 0, .int .i64 0, .int .i64 0, .int .i64 0, .int .i64 0, .int .i64 0] 48) = w1 at *
  clear hW
  have hw1 := (Array.getElem?_eq_some_iff.1 (L0.out.row (List.mem_cons_self ..))).1
  have LD := Lib.hid L0.out.drew
  clear L0
  refine Code.wp_mono (Q := fun e_ a_ W' => e_ = .normal ∧ ∃ g, a_ = ({ tmps := #[.slice (some ⟨b, off, none⟩) 3 cap, undef, .pointer (some ⟨w.heap.size, 0, none⟩), .int .i64 0, .pointer (some ⟨g, 0, none⟩), .slice (some ⟨b, off, none⟩) 3 cap, .int .i64 3, .bool false, undef, .slice (some ⟨b, off, none⟩) 3 cap, .pointer (some ⟨b, off, none⟩), .int .u64 x0, zz R I, .slice (some ⟨b, off, none⟩) 3 cap, .pointer (some ⟨b, off + 1, none⟩), .int .u64 x1, zz S J, .slice (some ⟨b, off, none⟩) 3 cap, .pointer (some ⟨b, off + 2, none⟩), .int .u64 x2, zz N M, pz R I S J N M, undef, undef, undef, undef, undef], defers := [] } : Act) ∧ LW w 0 [(g, 48, #[.int .i64 R, .int .i64 I, .int .i64 S, .int .i64 J, .int .i64 N, .int .i64 M]), (w.heap.size, 48, #[.int .i64 0, .int .i64 0, .int .i64 0, .int .i64 0, .int .i64 0, .int .i64 0])] W' ∧ w1.heap.size ≤ g) ?impd ?regd
  case regd =>
    clear hck
    have hge0 : w1.drew.heap.size ≤ w1.heap.size := Nat.le_refl _
    have sv : Hid (∀ W, Below w1.drew.heap.size w1.drew W → Below w1.drew.heap.size w1.drew W ∧ W.cell? ⟨b, off, none⟩ = some (.int .u64 x0) ∧ W.cell? ⟨b, off + 1, none⟩ = some (.int .u64 x1) ∧ W.cell? ⟨b, off + 2, none⟩ = some (.int .u64 x2)) := Lib.hid fun W hb => by
      have LL := LD.out.bel hb
      exact ⟨hb, HC.out _ LL.below⟩
    have BK0 := Below.refl w1.drew.heap.size w1.drew
    go_region_held3 (fun W => Below w1.drew.heap.size w1.drew W ∧ W.cell? ⟨b, off, none⟩ = some (.int .u64 x0) ∧ W.cell? ⟨b, off + 1, none⟩ = some (.int .u64 x1) ∧ W.cell? ⟨b, off + 2, none⟩ = some (.int .u64 x2))
      (first | (with_reducible exact sv.out _ BK0) | (with_reducible assumption) | (with_reducible exact sv.out _ (bt (And.left (by assumption)) hbw)) | (with_reducible exact sv.out _ (bt_alloc (And.left (by assumption)) _)) | (with_reducible exact sv.out _ (bt_allocd (And.left (by assumption)) _)) | (with_reducible exact sv.out _ (bt_re (And.left (by assumption)) (by assumption))) | (with_reducible exact sv.out _ (bt_set (And.left (by assumption)) (by assumption) _)))
      (first | (go_at_call 66; (first | (with_reducible refine (n0 _).mono ?_) | (with_reducible refine (n1 _).mono ?_) | (with_reducible refine (n2 _).mono ?_)); rintro e w_ ⟨rfl, hbw⟩; have hge := bt_ge (And.left (by assumption)) hbw; (first | have hRR := RR.bel (k := 6) (t := 48) (by assumption) hbw | have hRR := RR.bel (rr48 _ _ _ _ _ _ _) hbw | have hRR := RR.bel (rr48d _ _ _ _ _ _ _) hbw | skip)))
    all_goals
      rename_i hK
      first | exact ⟨rfl, _, rfl, LW.add (LD.out.bel hK.1) (heap_alloc_new _ _), (by first | exact Nat.le_refl _ | assumption)⟩ | exact ⟨rfl, _, rfl, LW.add (LD.out.bel hK.1) (RR.setRow_row (k := 6) (t := 48) (by assumption) _), (by first | exact Nat.le_refl _ | assumption)⟩
  rintro e_ a_ W2 ⟨rfl, g, rfl, l2, hwg⟩
  have L2 := Lib.hid l2
  have hge : w.heap.size ≠ g := by omega
  clear l2 LD n0 n1 n2 HC hwg
  have f0 := L2.out.cell (i := 0) (b := g) (v := .int .i64 R) (List.mem_cons_self ..) rfl
  have f1 := L2.out.cell (i := 1) (b := g) (v := .int .i64 I) (List.mem_cons_self ..) rfl
  have f2 := L2.out.cell (i := 2) (b := g) (v := .int .i64 S) (List.mem_cons_self ..) rfl
  have f3 := L2.out.cell (i := 3) (b := g) (v := .int .i64 J) (List.mem_cons_self ..) rfl
  have f4 := L2.out.cell (i := 4) (b := g) (v := .int .i64 N) (List.mem_cons_self ..) rfl
  have f5 := L2.out.cell (i := 5) (b := g) (v := .int .i64 M) (List.mem_cons_self ..) rfl
  go_wp2_with fail
  refine (hck _).mono ?_
  rintro e W3 ⟨rfl, hb3⟩
  have L3 := Lib.hid (L2.out.bel hb3)
  have hr : RR w.heap.size 6 48 W3 := ⟨_, rfl, L3.out.row (b := w.heap.size) (List.mem_cons_of_mem _ (List.mem_cons_self ..))⟩
  have HR := Lib.hid hr
  have y0 := L3.out.cell (i := 0) (b := g) (v := .int .i64 R) (List.mem_cons_self ..) rfl
  have y1 := L3.out.cell (i := 1) (b := g) (v := .int .i64 I) (List.mem_cons_self ..) rfl
  have y2 := L3.out.cell (i := 2) (b := g) (v := .int .i64 S) (List.mem_cons_self ..) rfl
  have y3 := L3.out.cell (i := 3) (b := g) (v := .int .i64 J) (List.mem_cons_self ..) rfl
  have y4 := L3.out.cell (i := 4) (b := g) (v := .int .i64 N) (List.mem_cons_self ..) rfl
  have y5 := L3.out.cell (i := 5) (b := g) (v := .int .i64 M) (List.mem_cons_self ..) rfl
  clear hb3 f0 f1 f2 f3 f4 f5 L2 hck
  by_cases hz : ck = 0
  · subst hz
    rw [if_pos rfl] at hans
    subst hans
    go_wp2
    exact res48 rfl HR.out _ _ _ _ _ _ _ _ rfl rfl ⟨rfl, below_setRow L3.out.below (Nat.le_refl _) _⟩
  · rw [if_neg hz] at hans
    subst hans
    have hne : (ck != 0) = true := by simp [bne, hz]
    go_wp2
    exact res48 rfl HR.out _ _ _ _ _ _ _ _ rfl rfl ⟨rfl, below_setRow L3.out.below (Nat.le_refl _) _⟩
end Go.Proofs.Ytbgllbjkmjlipaa
