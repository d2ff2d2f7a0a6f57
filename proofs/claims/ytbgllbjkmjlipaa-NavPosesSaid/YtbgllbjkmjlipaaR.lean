/- Contract: Drift. -/
import Derived.Test.YtbgllbjkmjlipaaQ
namespace Go.Proofs.Ytbgllbjkmjlipaa
open Go.RowKit
attribute [local go_sem] fmt64
attribute [local go_sem ↓] st45
attribute [local go_sem] st45_run

theorem results_row_tmp {P : Program} {fn : Func} {p q : Tmp} {ty : TypeId} (h : fn.results = #[.cell p ty, .tmp q]) (tmps : Array Value) (w : World) (g : Nat) (t : TypeId) (cs : Array Value) (fr : Nat × Nat) (d : TypeDesc)
    (hp : tmps.getD p undef = .pointer (some ⟨g, 0, none⟩)) (hg : w.heap[g]? = some (.cells cs t fr))
    (hu : P.underlying ty = some d) (hd : (match d with | .struct _ | .array _ _ => true | _ => false) = true) (hi : (P.info? ty).map (·.size) = some cs.size) :
    (results fn tmps).run P w = .ok (.tuple #[.agg cs, tmps.getD q undef]) w := by
  have hp' : tmps[p]?.getD undef = .pointer (some ⟨g, 0, none⟩) := by simpa using hp
  simp [results, h, hp', asAddr, run_loadVar_row w g t ty cs fr d hg hu hd hi]
abbrev pairP (x1 y1 x2 y2 x3 y3 : Nat) (e : Int) : Value := .tuple #[ps x1 y1 x2 y2 x3 y3, .int .i64 e]

/-- A pose's box, whole, and the result's row. -/
structure Box2 (w : World) (x1 y1 x2 y2 x3 y3 : Nat) (W : World) : Prop where
  row : W.heap[w.heap.size]? = some (.cells #[cx x1 y1, cx x2 y2, cx x3 y3] 45 (0, 0))
  res : RR (w.heap.size + 1) 3 45 W
  below : Below w.heap.size w W
  lt : w.heap.size + 1 < W.heap.size
theorem Box2.new (w : World) (x1 y1 x2 y2 x3 y3 : Nat) : Box2 w x1 y1 x2 y2 x3 y3 ((w.alloc (.cells #[cx x1 y1, cx x2 y2, cx x3 y3] 45)).alloc (.cells #[.complex .f64 0 0, .complex .f64 0 0, .complex .f64 0 0] 45)) :=
  ⟨by rw [Below.heap_alloc _ _ _ (by simp)]; exact heap_alloc_new w _, ⟨_, rfl, two_allocs _ _ _ _⟩, below2 _ _ _, by simp⟩
theorem Box2.bel {w W W' : World} {x1 y1 x2 y2 x3 y3 : Nat} (h : Box2 w x1 y1 x2 y2 x3 y3 W) (hb : Below W.heap.size W W') : Box2 w x1 y1 x2 y2 x3 y3 W' := by
  obtain ⟨h1, h2, h3, h4⟩ := h
  have := hb.size
  exact ⟨(hb.block _ (by omega)).trans h1, h2.below hb h4, h3.trans (hb.mono (by omega)), by omega⟩
theorem Box2.c0 {w W : World} {x1 y1 x2 y2 x3 y3 : Nat} (h : Box2 w x1 y1 x2 y2 x3 y3 W) : W.cell? ⟨w.heap.size, 0, none⟩ = some (cx x1 y1) := by rw [cell_of_row _ _ _ _ _ _ h.row]; rfl
theorem Box2.c1 {w W : World} {x1 y1 x2 y2 x3 y3 : Nat} (h : Box2 w x1 y1 x2 y2 x3 y3 W) : W.cell? ⟨w.heap.size, 1, none⟩ = some (cx x2 y2) := by rw [cell_of_row _ _ _ _ _ _ h.row]; rfl
theorem Box2.c2 {w W : World} {x1 y1 x2 y2 x3 y3 : Nat} (h : Box2 w x1 y1 x2 y2 x3 y3 W) : W.cell? ⟨w.heap.size, 2, none⟩ = some (cx x3 y3) := by rw [cell_of_row _ _ _ _ _ _ h.row]; rfl
/-- The end: the result's row is stored. -/
theorem box2_res {fn : Func} {p q : Tmp} (hf : fn.results = #[.cell p 45, .tmp q]) {w W : World} {x1 y1 x2 y2 x3 y3 : Nat} (h : Box2 w x1 y1 x2 y2 x3 y3 W) (tmps : Array Value) (a1 b1 a2 b2 a3 b3 : Nat) (e : Int)
    (hp : tmps.getD p undef = .pointer (some ⟨w.heap.size + 1, 0, none⟩)) (hq : tmps.getD q undef = .int .i64 e) {R : Ending → World → Prop}
    (hR : ∀ W', Below w.heap.size w W' → R (.returned (pairP a1 b1 a2 b2 a3 b3 e)) W') :
    bodyPost Try.prog fn R .ret { tmps := tmps, defers := [] } (W.setRow (w.heap.size + 1) #[cx a1 b1, cx a2 b2, cx a3 b3]) := by
  refine bodyPost_ret (results_row_tmp hf _ _ (w.heap.size + 1) 45 #[cx a1 b1, cx a2 b2, cx a3 b3] (0, 0) _ hp (h.res.setRow_row _) Try.underlying45 rfl (by kernel_rfl)) rfl ?_
  rw [hq]
  exact hR _ (below_setRow h.below (by omega) _)

set_option maxRecDepth 100000 in
theorem drift_no (x1 y1 x2 y2 x3 y3 : Nat) (c : Int) (hc : ∀ w, Calls Try.prog 29 #[ps x1 y1 x2 y2 x3 y3] w fun e w' => e = .returned (.int .i64 c) ∧ Below w.heap.size w w') (h0 : c ≠ 0) (w : World) :
    Calls Try.prog 32 #[ps x1 y1 x2 y2 x3 y3] w fun e w' => e = .returned (pairP 0 0 0 0 0 0 c) ∧ Below w.heap.size w w' := by
  have e1 : (c != 0) = true := by simp [bne, h0]
  have HB := Lib.hid (Box2.new w x1 y1 x2 y2 x3 y3)
  clear h0
  go_enter Try.func32, Try.ntmps32
  go_wp2_with fail
  refine (hc _).mono ?_
  rintro e w1 ⟨rfl, hb1⟩
  have h1 := HB.out.bel hb1
  have H1 := Lib.hid h1
  have r1 := h1.res
  clear h1 hb1 HB
  go_wp2
  exact box2_res rfl H1.out _ _ _ _ _ _ _ _ rfl rfl fun _ h => ⟨rfl, h⟩
set_option maxRecDepth 100000 in
set_option maxHeartbeats 1000000 in
theorem drift_ok (R I S J N M : Int) (h1 : rightB R I = true) (h2 : rightB S J = true) (h3 : noseB N M = true) (w : World) :
    Calls Try.prog 32 #[ps (wd false R) (wd false I) (wd false S) (wd false J) (wd false N) (wd false M)] w fun e w' =>
      e = .returned (if rightB (R + S) (I + J) then pairP (wd false (R + S)) (wd false (I + J)) (wd false S) (wd false J) (wd false N) (wd false M) 0 else pairP 0 0 0 0 0 0 10) ∧ Below w.heap.size w w' := by
  have hN := right_bd (nose_bd h3)
  have hR := right_bd h1
  have hS := right_bd h2
  have hc := check_any (wd false R) (wd false I) (wd false S) (wd false J) (wd false N) (wd false M) R I S J N M (.inl ⟨h1, rfl, rfl⟩) (.inl ⟨h2, rfl, rfl⟩) (.inl ⟨nose_bd h3, rfl, rfl⟩)
  rw [ck_yes h1 h2, h3, if_pos rfl] at hc
  have ha := gadd_ok false false false false R I S J h1 h2
  have hp := put_any (wd false R) (wd false I) false false (R + S) (I + J) S J N M (by omega) (by omega) (by omega) (by omega) (by omega) (by omega)
  unfold toldV at ha
  clear h1 h2 h3 hR hN hS
  generalize R + S = X at ha hp ⊢
  generalize I + J = Y at ha hp ⊢
  generalize wd false R = x1 at *
  generalize wd false I = y1 at *
  generalize wd false S = x2 at *
  generalize wd false J = y2 at *
  generalize wd false N = x3 at *
  generalize wd false M = y3 at *
  generalize wd false X = x4 at *
  generalize wd false Y = y4 at *
  have HB := Lib.hid (Box2.new w x1 y1 x2 y2 x3 y3)
  cases hq : rightB X Y with
  | false =>
    rw [hq] at ha
    simp only [Bool.false_eq_true, if_false] at ha ⊢
    clear hq hp
    go_enter Try.func32, Try.ntmps32
    go_wp2_with fail
    refine (hc _).mono ?_
    rintro e w1 ⟨rfl, hb1⟩
    have h1 := HB.out.bel hb1
    have H1 := Lib.hid h1
    have z0 := h1.c0
    have z1 := h1.c1
    clear h1 hb1 HB
    go_wp2_with fail
    refine (ha _).mono ?_
    rintro e w2 ⟨rfl, hb2⟩
    have h2 := H1.out.bel hb2
    have H2 := Lib.hid h2
    have r2 := h2.res
    clear h2 hb2 H1 z0 z1
    go_wp2
    exact box2_res rfl H2.out _ _ _ _ _ _ _ _ rfl rfl fun _ h => ⟨rfl, h⟩
  | true =>
    rw [hq] at ha
    simp only [if_true] at ha ⊢
    clear hq
    go_enter Try.func32, Try.ntmps32
    go_wp2_with fail
    refine (hc _).mono ?_
    rintro e w1 ⟨rfl, hb1⟩
    have h1 := HB.out.bel hb1
    have H1 := Lib.hid h1
    have z0 := h1.c0
    have z1 := h1.c1
    clear h1 hb1 HB
    go_wp2_with fail
    refine (ha _).mono ?_
    rintro e w2 ⟨rfl, hb2⟩
    have h2 := H1.out.bel hb2
    have H2 := Lib.hid h2
    have a0 := h2.c0
    have a1 := h2.c1
    have a2 := h2.c2
    clear h2 hb2 H1 z0 z1
    go_wp2_with fail
    refine (hp _).mono ?_
    rintro e w3 ⟨rfl, hb3⟩
    have h3 := H2.out.bel hb3
    have H3 := Lib.hid h3
    have r3 := h3.res
    clear h3 hb3 H2 a0 a1 a2
    go_wp2
    exact box2_res rfl H3.out _ _ _ _ _ _ _ _ rfl rfl fun _ h => ⟨rfl, h⟩
end Go.Proofs.Ytbgllbjkmjlipaa
