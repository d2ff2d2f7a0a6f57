/- bits.Row: the fields of lengths. -/
import Derived.Test.YtlchbjocemegbaaW
namespace Go.Proofs.Ytlchbjocemegbaa
open Go.RowKit Go.Shelf
attribute [local go_sem] Oper.semAt_some

/-- The cells of fields, side by side. -/
def cellsOf : List (Nat × Nat) → List Value
  | [] => []
  | x :: r => .int .i64 x.1 :: .int .i64 x.2 :: cellsOf r
theorem cellsOf_snoc (pre : List (Nat × Nat)) (x : Nat × Nat) : cellsOf (pre ++ [x]) = cellsOf pre ++ [.int .i64 x.1, .int .i64 x.2] := by
  induction pre with
  | nil => rfl
  | cons y r ih => simp [cellsOf, ih]

theorem News2 (W : World) (a b : Value) : ∀ j u, [a, b][j]? = some u → (W.alloc (Obj.cells #[a, b] 23)).cell? ((⟨W.heap.size, 0, none⟩ : Addr).add j) = some u :=
  World.news_of_block (cs := #[a, b]) (t := 23) (fr := (0, 0)) (heap_alloc_new W _)

/-- What is held between two rounds. -/
structure RowInv (w : World) (rec : Loop) (sl : Value) (pre : List (Nat × Nat)) (W : World) : Prop where
  below : Below w.heap.size w W
  b1 : Boxed W (w.heap.size + 1) 36 (.int .i64 0)
  b2 : Boxed W (w.heap.size + 2) 44 sl
  b3 : Boxed W (w.heap.size + 3) 70 (.pointer (some ⟨w.heap.size + 1, 0, none⟩))
  out : ∃ v, Boxed W w.heap.size 46 v ∧ W.ownsRow w.heap.size 23 2 v pre.length (cellsOf pre) ∧ (pre = [] → v = .slice none 0 0)
  mark : W.heap[w.heap.size + 4]? = some (.deferred (some []))
  rcd : W.heap[w.heap.size + 5]? = some (.loop rec)

theorem row_any (A : Option Addr) (n c : Nat) (b : Addr) (w : World) :
    Calls Try.prog 37 #[.slice A n c, .pointer (some b)] w fun e w' => e = .returned (.func (.func 39) #[] #[.pointer (some ⟨w.heap.size, 0, none⟩), .pointer (some ⟨w.heap.size + 1, 0, none⟩)]) ∧ (w.alloc (.cells #[.slice A n c] 44)).alloc (.cells #[.pointer (some b)] 70) = w' := by
  go_enter Try.func37, Try.ntmps37
  go_wp2
  go_ret
  exact ⟨rfl, rfl⟩

theorem Try.info23 : (Try.prog.info? 23).map (fun i => (i.zero, i.size, i.bytes)) = some (some (.agg #[.int .i64 0, .int .i64 0]), 2, 16) := by kernel_rfl

/-- The fields that lengths make; none, if they are wrong. -/
def fieldsOf (zs : List Int) : List (Nat × Nat) := if (rowGo 0 zs).2 = 0 then (rowGo 0 zs).1 else []
def RowPost (w : World) (zs : List Int) (e : Ending) (W' : World) : Prop :=
  ∃ v, e = .returned (.tuple #[v, .int .i64 (rowGo 0 zs).2]) ∧ W'.ownsRow w.heap.size 23 2 v (fieldsOf zs).length (cellsOf (fieldsOf zs)) ∧ Below w.heap.size w W'

theorem rowGo_len (at_ : Nat) (zs : List Int) (h : at_ ≤ 64) : (rowGo at_ zs).1.length + at_ ≤ 64 := by
  induction zs generalizing at_ with
  | nil => simpa [rowGo] using h
  | cons n r ih =>
    rw [rowGo]
    split
    · simpa using h
    · split
      · simpa using h
      · have := ih (at_ + n.toNat) (by omega)
        simp only [List.length_cons]
        omega

/-- An outermost range over a function value, up to the one call: the loop's record lies behind the block for deferred calls. -/
theorem range_call {F : Fence} {n : Nat} {P : Program} {g : Operand} {ps : Array Tmp} {assign body : Code} {Q : Exit → Act → World → Prop} {a : Act} {w : World} {gf : Nat} {lb : Array Value}
    (hro : F.round = none) (h1 : 1 ≤ n) (hg : a.eval g = .func (.func gf) #[] lb) (hFg : F.fn gf) (eg : ∀ args w, (callFunc gf args).run P w = .ok (.enter gf args) w)
    (h : ∀ (fn : FuncId) (rcd : Loop), F.fn fn → rcd = { state := .ready, pending := none, fn, tmps := a.tmps, params := ps, assign, body, defers := w.heap.size } → CallsIn F (n - 1) P gf (#[.func (.yield (w.heap.size + 1)) #[] #[]] ++ lb)
      ((w.alloc (.deferred (some []))).alloc (.loop rcd))
      (rangePost F n P (w.heap.size + 1) Q { a with defers := [{ target := .collected w.heap.size, args := #[] }] ++ a.defers })) :
    (Code.rangeFunc g ps assign body).wpIn F n P Q a w := by
  refine wpIn_rangeFunc ?_
  intro fn hfn
  rw [hro]
  have he := run_enterLoop_outer (P := P) (w := w) fn a.tmps ps assign body
  have hc := h fn _ hfn rfl
  obtain ⟨W1, hW1⟩ : ∃ W1, ((w.alloc (.deferred (some []))).alloc (.loop { state := .ready, pending := none, fn, tmps := a.tmps, params := ps, assign, body, defers := w.heap.size })) = W1 := ⟨_, rfl⟩
  rw [hW1] at he hc
  refine ⟨w.heap.size + 1, [{ target := .collected w.heap.size, args := #[] }], W1, { target := .fn (.func gf) lb, args := #[.func (.yield (w.heap.size + 1)) #[] #[]] }, W1, gf, #[.func (.yield (w.heap.size + 1)) #[] #[]] ++ lb, W1, ?_, ?_, ?_, ?_, fun _ => h1, ?_⟩
  · exact he
  · simp only [resolve, hg]
    simp [go_sem]
  · intro f' hf'
    simp [Target.leads] at hf'
    subst hf'
    exact hFg
  · simp [invoke, go_sem, eg]
  · exact hc

set_option maxRecDepth 100000 in
set_option maxHeartbeats 2000000 in
theorem row_fields_in (A : Option Addr) (len cap : Nat) (zs : List Int) (hlen : len ≤ 80) (w : World) (hN : Nums w w.heap.size A len zs) :
    CallsIn Fence.wide 8 Try.prog 24 #[.slice A len cap] w (RowPost w zs) := by
  obtain ⟨i0, hi, hz0, hz1, hz2⟩ := info_parts Try.info23
  refine callsIn_of_wp_marks Try.func24 rfl trivial ?_ rfl
  simp only [Try.ntmps24, List.size_toArray, List.length_cons, List.length_nil, Nat.reduceAdd, Nat.reduceSub, Array.replicate_succ, Array.replicate_zero, List.push_toArray, List.append_toArray, List.nil_append, List.cons_append]
  gi_wp2_with (refine ⟨trivial, ?_⟩; gi_at_call 37; refine (callsIn_wide.2 (row_any _ _ _ _ _)).mono ?_; rintro e w' ⟨rfl, rfl⟩)
  obtain ⟨W0, hW0⟩ : ∃ W0, ((((w.alloc (Obj.cells #[Value.slice none 0 0] 46)).alloc (Obj.cells #[Value.int IntKind.i64 0] 36)).alloc (Obj.cells #[Value.slice A len cap] 44)).alloc (Obj.cells #[Value.pointer (some { block := w.heap.size + 1, off := 0 })] 70)) = W0 := ⟨_, rfl⟩
  have hsz : W0.heap.size = w.heap.size + 4 := by rw [← hW0]; simp
  have bb : Below w.heap.size w W0 := by rw [← hW0]; exact ((((Below.refl _ _).alloc (Nat.le_refl _) _).alloc (by simp) _).alloc (by simp <;> omega) _).alloc (by simp <;> omega) _
  have x0 : Boxed W0 w.heap.size 46 (.slice none 0 0) := by rw [← hW0]; exact (((Boxed.new _ _ _).alloc _).alloc _).alloc _
  have x1 : Boxed W0 (w.heap.size + 1) 36 (.int .i64 0) := by rw [← hW0]; have h := Boxed.new (w.alloc (Obj.cells #[Value.slice none 0 0] 46)) 36 (.int .i64 0); rw [World.size_alloc] at h; exact (h.alloc _).alloc _
  have x2 : Boxed W0 (w.heap.size + 2) 44 (.slice A len cap) := by rw [← hW0]; have h := Boxed.new ((w.alloc (Obj.cells #[Value.slice none 0 0] 46)).alloc (Obj.cells #[Value.int IntKind.i64 0] 36)) 44 (.slice A len cap); rw [World.size_alloc, World.size_alloc] at h; exact h.alloc _
  have x3 : Boxed W0 (w.heap.size + 3) 70 (.pointer (some ⟨w.heap.size + 1, 0, none⟩)) := by rw [← hW0]; have h := Boxed.new (((w.alloc (Obj.cells #[Value.slice none 0 0] 46)).alloc (Obj.cells #[Value.int IntKind.i64 0] 36)).alloc (Obj.cells #[Value.slice A len cap] 44)) 70 (.pointer (some ⟨w.heap.size + 1, 0, none⟩)); rw [World.size_alloc, World.size_alloc, World.size_alloc] at h; exact h
  rw [hW0]
  clear hW0
  refine range_call rfl (by omega) (gf := 39) (lb := #[.pointer (some ⟨w.heap.size + 2, 0, none⟩), .pointer (some ⟨w.heap.size + 3, 0, none⟩)]) rfl trivial (enters_of Try.func39 (by kernel_rfl) rfl) fun fn rcd _ hrcd => ?_
  have hsz1 : ((W0.alloc (.deferred (some []))).alloc (.loop rcd)).heap.size = w.heap.size + 6 := by simp [hsz]
  have inv0 : RowInv w rcd (.slice A len cap) [] ((W0.alloc (.deferred (some []))).alloc (.loop rcd)) :=
    ⟨(bb.alloc (by omega) _).alloc (by simp <;> omega) _, (x1.alloc _).alloc _, (x2.alloc _).alloc _, (x3.alloc _).alloc _, ⟨_, (x0.alloc _).alloc _, World.ownsRow_nil _ _ _ _, fun _ => rfl⟩,
      by rw [show w.heap.size + 4 = W0.heap.size from hsz.symm]; exact heap_alloc2_old _ _ _, by rw [show w.heap.size + 5 = W0.heap.size + 1 by omega]; exact heap_alloc2_new _ _ _⟩
  rw [hsz]
  generalize ((W0.alloc (.deferred (some []))).alloc (.loop rcd)) = W1 at inv0 hsz1
  refine (row1_in 7 (by omega) (w.heap.size + 4 + 1) (w.heap.size + 1) (w.heap.size + 2) (w.heap.size + 3) A len cap zs hlen (RowInv w rcd (.slice A len cap)) ?hJ ?hY W1 inv0).mono ?hE
  case hJ =>
    intro pre W hI
    exact ⟨hI.b2.cell, hI.b3.cell, hI.b1.cell, hI.b1.frozen, (hN.below hI.below).more (by omega)⟩
  case hY =>
    rintro pre x W hI ⟨r, c, hpre⟩
    have hlen64 : pre.length + 1 ≤ 64 := by have := rowGo_len 0 zs (by omega); rw [hpre] at this; simp at this; omega
    have hy := run_yield (P := Try.prog) (args := #[fld x.1 x.2]) hI.rcd (by rw [hrcd]; rfl)
    have HI := Lib.hid hI
    have HRC := Lib.hid hrcd
    rw [hrcd] at hy
    refine ⟨_, _, _, _, hy, roundIn_of_wpIn trivial ?_⟩
    dsimp only
    clear hy hI hrcd hpre inv0
    gi_wp2
    have hst : rcd.state = .ready := by rw [HRC.out]
    have hl1 : (W.alloc (Obj.cells #[Value.int IntKind.i64 x.1, Value.int IntKind.i64 x.2] 23)).heap[w.heap.size + 4 + 1]? = some (.loop rcd) := (Below.heap_alloc W _ _ (Array.getElem?_eq_some_iff.1 HI.out.rcd).1).trans HI.out.rcd
    refine ⟨_, run_beginRound hl1 hst, ?_⟩
    obtain ⟨v, hv, hrow, hnil⟩ := HI.out.out
    have hWs : w.heap.size + 6 ≤ W.heap.size := (Array.getElem?_eq_some_iff.1 HI.out.rcd).1
    obtain ⟨W2, hW2⟩ : ∃ W2, (W.alloc (Obj.cells #[Value.int IntKind.i64 x.1, Value.int IntKind.i64 x.2] 23)).putObj (w.heap.size + 4 + 1) (.loop { rcd with state := .busy }) = W2 := ⟨_, rfl⟩
    rw [hW2]
    have g1 : (W.alloc (Obj.cells #[Value.int IntKind.i64 x.1, Value.int IntKind.i64 x.2] 23)).grownBy W2 (some (w.heap.size + 4 + 1)) := by rw [← hW2]; exact grownBy_putObj' _ _ _
    have y0 : Boxed W2 w.heap.size 46 v := (hv.alloc _).kept g1 (by simp <;> omega)
    have y1 := (HI.out.b1.alloc (Obj.cells #[Value.int IntKind.i64 x.1, Value.int IntKind.i64 x.2] 23)).kept g1 (by simp <;> omega)
    have y2 := (HI.out.b2.alloc (Obj.cells #[Value.int IntKind.i64 x.1, Value.int IntKind.i64 x.2] 23)).kept g1 (by simp <;> omega)
    have y3 := (HI.out.b3.alloc (Obj.cells #[Value.int IntKind.i64 x.1, Value.int IntKind.i64 x.2] 23)).kept g1 (by simp <;> omega)
    have yr : W2.ownsRow w.heap.size 23 2 v pre.length (cellsOf pre) := by rw [← hW2]; exact ownsRow_putObj (hrow.alloc _) _ hl1 rfl
    have yb : Below w.heap.size w W2 := (HI.out.below.alloc (by omega) _).grown g1 (by simp <;> omega) (fun k e => by cases e; omega)
    have yx : W2.heap[W.heap.size]? = some (.cells #[Value.int IntKind.i64 x.1, Value.int IntKind.i64 x.2] 23 (0, 0)) := (g1.block _ (by simp) (by simp <;> omega)).trans (heap_alloc_new W _)
    have ym : W2.heap[w.heap.size + 4]? = some (.deferred (some [])) := (g1.block _ (by simp <;> omega) (by simp)).trans ((Below.heap_alloc W _ _ (by omega)).trans HI.out.mark)
    have yl : W2.heap[w.heap.size + 5]? = some (.loop { rcd with state := .busy }) := by rw [← hW2]; exact World.putObj_heap_same (by simp <;> omega)
    have ys : W.heap.size + 1 ≤ W2.heap.size := by rw [← hW2]; simp
    have hc := y0.cell
    have hx0 : W2.cell? ⟨W.heap.size, 0, none⟩ = some (.int .i64 x.1) := by rw [cell_of_row W2 _ 0 _ _ _ yx]; rfl
    have hx1 : W2.cell? ⟨W.heap.size, 1, none⟩ = some (.int .i64 x.2) := by rw [cell_of_row W2 _ 1 _ _ _ yx]; rfl
    clear hl1 hst hv hrow hW2 g1 yx
    gi_wp2_with (gi_at_builtin; go_must (refine wpListIn_append_own _ rfl _ _ 46 rfl w.heap.size 23 i0 _ 2 16 Try.underlying46 hi hz0 hz1 hz2 rfl (by decide) _ _ _ rfl (yr.alloc _) ⟨W2.heap.size, 0, none⟩ 1 1 [.int .i64 x.1, .int .i64 x.2] rfl rfl (News2 W2 _ _) (by simp [Value.oneCell']) (by unfold maxLen; omega) (by omega) (by simp <;> omega) ?_); intro v' w1 hown' hgrow _; obtain ⟨g', cap', rfl⟩ := ownsRow_succ hown'; obtain ⟨hv1, hv2, hr2, hk2, hb2⟩ := y0.appended (by decide) yr (by omega) (Nat.le_refl _) hown' hgrow; have hc1 := hv1.cell; have hf1 := hv1.frozen; have hg1 : (W2.alloc (Obj.cells #[Value.int IntKind.i64 x.1, Value.int IntKind.i64 x.2] 23)).grownBy w1 v.ownBlock := hgrow)
    have hl3 := hk2.same _ _ yl rfl
    have gS := grownBy_setCell' w1 w.heap.size (.slice (some ⟨g', 0, none⟩) (pre.length + 1) cap')
    have z1 := ((y1.alloc _).kept hg1 (y1.not_row (by decide) yr)).kept gS (by simp <;> omega)
    have z2 := ((y2.alloc _).kept hg1 (y2.not_row (by decide) yr)).kept gS (by simp <;> omega)
    have z3 := ((y3.alloc _).kept hg1 (y3.not_row (by decide) yr)).kept gS (by simp <;> omega)
    have zm := hk2.same _ _ ym rfl
    have zb := yb.trans hb2
    have hrd : ({ rcd with state := LoopState.ready, pending := none } : Loop) = rcd := by rw [HRC.out]
    refine ⟨_, _, run_endRound none hl3, rfl, ?_⟩
    have gP := grownBy_putObj' (w1.setCell ⟨w.heap.size, 0, none⟩ (.slice (some ⟨g', 0, none⟩) (pre.length + 1) cap')) (w.heap.size + 4 + 1) (.loop rcd)
    show RowInv w rcd (.slice A len cap) (pre ++ [x]) ((w1.setCell ⟨w.heap.size, 0, none⟩ (.slice (some ⟨g', 0, none⟩) (pre.length + 1) cap')).putObj (w.heap.size + 4 + 1) (.loop { rcd with state := LoopState.ready, pending := none }))
    rw [hrd]
    have hlt3 := (Array.getElem?_eq_some_iff.1 hl3).1
    refine ⟨zb.grown gP (by omega) (fun k e => by cases e; omega), z1.kept gP (by simp <;> omega), z2.kept gP (by simp <;> omega), z3.kept gP (by simp <;> omega), ⟨_, hv2.kept gP (by simp <;> omega), ?_, fun h => by simp at h⟩, (World.putObj_heap_other (by omega)).trans zm, World.putObj_heap_same hlt3⟩
    rw [cellsOf_snoc, List.length_append]
    exact ownsRow_putObj hr2 _ hl3 rfl
  case hE =>
    rintro e W' ⟨⟨v0, rfl⟩, W3, hI, hW⟩
    obtain ⟨v, hv, hrow, hnil⟩ := hI.out
    have hst : rcd.state ≠ .busy := by rw [hrcd]; simp
    have hpe : rcd.pending = none := by rw [hrcd]
    by_cases hc0 : (rowGo 0 zs).2 = 0
    · rw [if_pos hc0] at hW
      obtain rfl : W3 = W' := hW.symm
      have hend : (Instr.endLoop (w.heap.size + 4 + 1)).run Try.prog W3 = .ok none (W3.putObj (w.heap.size + 4 + 1) (.loop { rcd with state := .exhausted })) := (run_endLoop (P := Try.prog) hI.rcd hst).trans (by rw [hpe])
      have gP := grownBy_putObj' W3 (w.heap.size + 4 + 1) (.loop { rcd with state := .exhausted })
      have z0 := hv.kept gP (by simp <;> omega)
      have z1 := hI.b1.kept gP (by simp <;> omega)
      have zr := ownsRow_putObj hrow (.loop { rcd with state := .exhausted }) hI.rcd rfl
      have zm : (W3.putObj (w.heap.size + 4 + 1) (.loop { rcd with state := .exhausted })).heap[w.heap.size + 4]? = some (.deferred (some [])) := (World.putObj_heap_other (by omega)).trans hI.mark
      have hlt3 := (Array.getElem?_eq_some_iff.1 hI.rcd).1
      have zb := hI.below.grown gP (by omega) (fun k e => by cases e; omega)
      obtain ⟨W4, hW4⟩ : ∃ W4, W3.putObj (w.heap.size + 4 + 1) (.loop { rcd with state := .exhausted }) = W4 := ⟨_, rfl⟩
      rw [hW4] at hend z0 z1 zr zm zb
      refine ⟨none, W4, hend, ?_⟩
      dsimp only
      have hc := z0.cell
      have hc1 := z1.cell
      have HC := Lib.hid hc0
      clear hW4 hst hpe hI gP hrcd inv0 hc0 hend
      gi_wp2
      refine ⟨by simp, .inl ⟨_, _, rfl, run_takeDeferred zm, ?_⟩⟩
      refine ⟨_, results_tmp2 rfl _ _ _, v, by rw [HC.out]; rfl, ?_, zb.trans (belowK_b (w := w) (Nat.le_refl _) W4 (w.heap.size + 4) _ _ (by omega) zm rfl rfl)⟩
      rw [show fieldsOf zs = (rowGo 0 zs).1 from if_pos HC.out]
      exact ownsRow_putObj zr _ zm rfl
    · rw [if_neg hc0] at hW
      have gC := grownBy_setCell' W3 (w.heap.size + 1) (.int .i64 (rowGo 0 zs).2)
      have hrec : W'.heap[w.heap.size + 4 + 1]? = some (.loop rcd) := by rw [hW]; exact (gC.block _ (Array.getElem?_eq_some_iff.1 hI.rcd).1 (by simp <;> omega)).trans hI.rcd
      have zm0 : W'.heap[w.heap.size + 4]? = some (.deferred (some [])) := by rw [hW]; exact (gC.block _ (Array.getElem?_eq_some_iff.1 hI.mark).1 (by simp <;> omega)).trans hI.mark
      have z10 : Boxed W' (w.heap.size + 1) 36 (.int .i64 (rowGo 0 zs).2) := by rw [hW]; exact hI.b1.set _
      have zb0 : Below w.heap.size w W' := by rw [hW]; exact hI.below.grown gC (by have := (Array.getElem?_eq_some_iff.1 hI.rcd).1; omega) (fun k e => by cases e; omega)
      have hend : (Instr.endLoop (w.heap.size + 4 + 1)).run Try.prog W' = .ok none (W'.putObj (w.heap.size + 4 + 1) (.loop { rcd with state := .exhausted })) := (run_endLoop (P := Try.prog) hrec hst).trans (by rw [hpe])
      have gP := grownBy_putObj' W' (w.heap.size + 4 + 1) (.loop { rcd with state := .exhausted })
      have z1 := z10.kept gP (by simp <;> omega)
      have zm : (W'.putObj (w.heap.size + 4 + 1) (.loop { rcd with state := .exhausted })).heap[w.heap.size + 4]? = some (.deferred (some [])) := (World.putObj_heap_other (by omega)).trans zm0
      have hlt3 := (Array.getElem?_eq_some_iff.1 hrec).1
      have zb := zb0.grown gP (by omega) (fun k e => by cases e; omega)
      obtain ⟨W4, hW4⟩ : ∃ W4, W'.putObj (w.heap.size + 4 + 1) (.loop { rcd with state := .exhausted }) = W4 := ⟨_, rfl⟩
      rw [hW4] at hend z1 zm zb
      refine ⟨none, W4, hend, ?_⟩
      dsimp only
      have hc1 := z1.cell
      have HC := Lib.hid hc0
      have hd : ((rowGo 0 zs).2 != 0) = true := by simpa [bne] using hc0
      clear hW4 hst hpe hI gP hrcd inv0 hc0 hend hW hrow hv hnil
      generalize hcd : (rowGo 0 zs).2 = cd at hc1 hd z1
      have HCD := Lib.hid hcd
      clear hcd z10 gC zb0 zm0 hrec z1
      gi_wp2
      gi_region
      all_goals gi_wp2
      refine ⟨by simp, .inl ⟨_, _, rfl, run_takeDeferred (show W4.drew.heap[w.heap.size + 4]? = _ from zm), ?_⟩⟩
      refine ⟨_, results_tmp2 rfl _ _ _, .slice none 0 0, by rw [HCD.out]; rfl, ?_, zb.drew.trans (belowK_b (w := w) (Nat.le_refl _) W4.drew (w.heap.size + 4) _ _ (by omega) zm rfl rfl)⟩
      rw [show fieldsOf zs = [] from if_neg HC.out]
      exact World.ownsRow_nil _ _ _ _
end Go.Proofs.Ytlchbjocemegbaa
