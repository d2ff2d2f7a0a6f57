/- Contract: Follow that tells an error. -/
import Derived.WalkMore
import Derived.ScopeJumps
import Derived.Test.YtbgllbjkmjlipaaW13
namespace Go.Proofs.Ytbgllbjkmjlipaa
open Go.RowKit Go.Shelf
attribute [local go_sem] fmt64

theorem st79 (x y : Value) : Instr.storeAt 79 x y = stRow 79 x y := stRow_eq 79 x y
theorem st79_run {g : Nat} {W : World} {A : Option Addr} {n c : Nat} {a b : Int} (h : RR g 3 79 W) : (stRow 79 (.pointer (some ⟨g, 0, none⟩)) (.agg #[.slice A n c, .int .i64 a, .int .i64 b])).run Try.prog W = .ok () (W.setRow g #[.slice A n c, .int .i64 a, .int .i64 b]) :=
  stRow_run h rfl (by kernel_rfl) (by simp [Value.oneCell'])
attribute [local go_sem ↓] st79
attribute [local go_sem] st79_run

section
variable {w W : World} {k : Nat} {L : List MRow}
theorem LW.froz (h : LW w k L W) {b i : Nat} {t : TypeId} {cs : Array Value} (hx : (b, t, cs) ∈ L) : W.frozen? ⟨b, i, none⟩ = false := frozen_of_row W b i _ t (h.rows _ hx)
theorem LW.swap {x y : MRow} (h : LW w k (x :: y :: L) W) : LW w k (y :: x :: L) W :=
  ⟨fun z hz => h.rows z (by rcases List.mem_cons.1 hz with rfl | hz; exact List.mem_cons_of_mem _ (List.mem_cons_self ..); rcases List.mem_cons.1 hz with rfl | hz; exact List.mem_cons_self ..; exact List.mem_cons_of_mem _ (List.mem_cons_of_mem _ hz)), h.below, h.size⟩
theorem LW.putCell {b i : Nat} {t : TypeId} {cs : Array Value} (h : LW w k ((b, t, cs) :: L) W) (hne : ∀ x ∈ L, x.1 ≠ b) (hb : w.heap.size ≤ b) (v : Value) : LW w k ((b, t, cs.setIfInBounds i v) :: L) (W.setCell ⟨b, i, none⟩ v) := by
  refine ⟨fun x hx => ?_, h.below.setCell hb _, by simpa using h.size⟩
  rcases List.mem_cons.1 hx with rfl | hx
  · exact heap_setCell_same W b i cs t v (h.rows _ (List.mem_cons_self ..))
  · exact (Below.heap_setCell W _ v x.1 (hne x hx)).trans (h.rows x (List.mem_cons_of_mem _ hx))
theorem LW.putRow {b : Nat} {t : TypeId} {cs : Array Value} (h : LW w k ((b, t, cs) :: L) W) (hne : ∀ x ∈ L, x.1 ≠ b) (hb : w.heap.size ≤ b) (cs' : Array Value) : LW w k ((b, t, cs') :: L) (W.setRow b cs') := by
  refine ⟨fun x hx => ?_, below_setRow h.below hb _, by simpa using h.size⟩
  rcases List.mem_cons.1 hx with rfl | hx
  · exact setRow_heap W b cs cs' t (0, 0) (h.rows _ (List.mem_cons_self ..))
  · exact (setRow_other W b x.1 cs' (hne x hx)).trans (h.rows x (List.mem_cons_of_mem _ hx))
theorem LW.rr {b : Nat} {t : TypeId} {cs : Array Value} (h : LW w k L W) (hx : (b, t, cs) ∈ L) : RR b cs.size t W := ⟨cs, rfl, h.rows _ hx⟩
end
theorem results_tmp_row_tmp {P : Program} {fn : Func} {o p q : Tmp} {ty : TypeId} (h : fn.results = #[.tmp o, .cell p ty, .tmp q]) (tmps : Array Value) (w : World) (g : Nat) (t : TypeId) (cs : Array Value) (fr : Nat × Nat) (d : TypeDesc)
    (hp : tmps.getD p undef = .pointer (some ⟨g, 0, none⟩)) (hg : w.heap[g]? = some (.cells cs t fr))
    (hu : P.underlying ty = some d) (hd : (match d with | .struct _ | .array _ _ => true | _ => false) = true) (hi : (P.info? ty).map (·.size) = some cs.size) :
    (results fn tmps).run P w = .ok (.tuple #[tmps.getD o undef, .agg cs, tmps.getD q undef]) w := by
  have hp' : tmps[p]?.getD undef = .pointer (some ⟨g, 0, none⟩) := by simpa using hp
  simp [results, h, hp', asAddr, run_loadVar_row w g t ty cs fr d hg hu hd hi]
abbrev route (A : Option Addr) (n c : Nat) (nx near : Int) : Value := .agg #[.slice A n c, .int .i64 nx, .int .i64 near]

theorem fol_end {w W : World} {tmps : Array Value} {A : Option Addr} {n c x y : Nat} {nx near e : Int} {L : List MRow} {R : Ending → World → Prop} (h : LW w 0 ((w.heap.size + 1, 79, #[.slice A n c, .int .i64 nx, .int .i64 near]) :: L) W)
    (h4 : tmps.getD 4 undef = cx x y) (h5 : tmps.getD 5 undef = .pointer (some ⟨w.heap.size + 1, 0, none⟩)) (h6 : tmps.getD 6 undef = .int .i64 e) (hR : R (.returned (.tuple #[cx x y, route A n c nx near, .int .i64 e])) W) :
    bodyPost Try.prog Try.f38 R .ret { tmps := tmps, defers := [] } W := by
  refine bodyPost_ret (results_tmp_row_tmp rfl _ _ (w.heap.size + 1) 79 #[.slice A n c, .int .i64 nx, .int .i64 near] (0, 0) _ h5 (h.row (List.mem_cons_self ..)) Try.underlying79 rfl (by kernel_rfl)) rfl ?_
  rw [h4, h6]
  exact hR
theorem fol_ne (a : Nat) {A : Option Addr} {n c : Nat} {nx near : Int} : ∀ x : MRow, x ∈ [(a, 79, #[.slice A n c, .int .i64 nx, .int .i64 near])] → x.1 ≠ a + 1 := by
  intro x hx
  obtain rfl := List.mem_singleton.1 hx
  simp

set_option maxRecDepth 100000 in
set_option maxHeartbeats 2000000 in
theorem follow_arg (A : Option Addr) (n cap : Nat) (nx near : Int) (x y : Nat) (h : nx < 0 ∨ (n : Int) ≤ nx) (w : World) :
    Calls Try.prog 38 #[route A n cap nx near, cx x y] w fun e w' => e = .returned (.tuple #[cx 0 0, route none 0 0 0 0, .int .i64 1]) ∧ Below w.heap.size w w' := by
  have L0 := (((LW.nil w).new 79 #[.slice A n cap, .int .i64 nx, .int .i64 near]).new 79 #[.slice none 0 0, .int .i64 0, .int .i64 0])
  simp only [World.size_alloc] at L0
  have c1 := L0.cell (i := 1) (b := w.heap.size) (v := .int .i64 nx) (List.mem_cons_of_mem _ (List.mem_cons_self ..)) rfl
  have c0 := L0.cell (i := 0) (b := w.heap.size) (v := .slice A n cap) (List.mem_cons_of_mem _ (List.mem_cons_self ..)) rfl
  have hr : RR (w.heap.size + 1) 3 79 _ := L0.rr (List.mem_cons_self ..)
  have LL := Lib.hid (L0.putRow (fol_ne _) (by omega) #[.slice none 0 0, .int .i64 0, .int .i64 0])
  clear L0
  by_cases c : nx < 0
  · have d0 : decide (nx < 0) = true := by simpa using c
    clear h
    go_enter Try.func38, Try.ntmps38
    go_wp2
    go_step3
    go_wp2
    rw [Exit.noGoto_ret]
    exact fol_end LL.out rfl rfl rfl ⟨rfl, LL.out.below⟩
  · have d0 : decide (nx < 0) = false := by simpa using c
    have d1 : decide (nx ≥ (n : Int)) = true := by simp; omega
    clear h
    go_enter Try.func38, Try.ntmps38
    go_wp2
    go_step3
    go_wp2
    rw [Exit.noGoto_ret]
    exact fol_end LL.out rfl rfl rfl ⟨rfl, LL.out.below⟩
set_option maxRecDepth 100000 in
set_option maxHeartbeats 2000000 in
theorem follow_range (A : Option Addr) (n cap : Nat) (nx near : Int) (x y : Nat) (X Y : Nat → Nat) (hn : n ≤ 100) (h0 : 0 ≤ nx) (h1 : nx < n) (h : (allB X Y n && mayZ x y && decide (0 ≤ near)) = false) (w : World) (hp : Pts w w.heap.size A n (fun k => cx (X k) (Y k))) :
    Calls Try.prog 38 #[route A n cap nx near, cx x y] w fun e w' => e = .returned (.tuple #[cx 0 0, route none 0 0 0 0, .int .i64 10]) ∧ Below w.heap.size w w' := by
  have L0 := (((LW.nil w).new 79 #[.slice A n cap, .int .i64 nx, .int .i64 near]).new 79 #[.slice none 0 0, .int .i64 0, .int .i64 0])
  simp only [World.size_alloc] at L0
  have hal := all_any A n cap X Y (by omega) _ ((hp.below L0.below).more L0.below.size)
  have hmy := may_any x y
  clear hp
  have c1 := L0.cell (i := 1) (b := w.heap.size) (v := .int .i64 nx) (List.mem_cons_of_mem _ (List.mem_cons_self ..)) rfl
  have c0 := L0.cell (i := 0) (b := w.heap.size) (v := .slice A n cap) (List.mem_cons_of_mem _ (List.mem_cons_self ..)) rfl
  have LL := Lib.hid L0
  clear L0
  have d0 : decide (nx < 0) = false := by simp; omega
  have d1 : decide (nx ≥ (n : Int)) = false := by simp; omega
  clear h0 h1
  generalize allB X Y n = p at *
  generalize mayZ x y = q at *
  cases p with
  | false =>
    clear h hmy
    go_enter Try.func38, Try.ntmps38
    go_wp2
    go_step3
    go_wp2_with fail
    refine hal.mono ?_
    rintro e w1 ⟨rfl, hb⟩
    have L1 := LL.out.bel hb
    have hr : RR (w.heap.size + 1) 3 79 _ := L1.rr (List.mem_cons_self ..)
    have L2 := Lib.hid (L1.putRow (fol_ne _) (by omega) #[.slice none 0 0, .int .i64 0, .int .i64 0])
    clear L1 hb LL
    go_wp2
    rw [Exit.noGoto_ret]
    exact fol_end L2.out rfl rfl rfl ⟨rfl, L2.out.below⟩
  | true =>
    cases q with
    | false =>
      clear h
      go_enter Try.func38, Try.ntmps38
      go_wp2
      go_step3
      go_wp2_with fail
      refine hal.mono ?_
      rintro e w1 ⟨rfl, hb⟩
      have L1 := Lib.hid (LL.out.bel hb)
      clear hb LL
      go_wp2_with fail
      refine (hmy _).mono ?_
      rintro e w2 ⟨rfl, hb⟩
      have L1 := L1.out.bel hb
      have hr : RR (w.heap.size + 1) 3 79 _ := L1.rr (List.mem_cons_self ..)
      have L2 := Lib.hid (L1.putRow (fol_ne _) (by omega) #[.slice none 0 0, .int .i64 0, .int .i64 0])
      clear L1 hb
      go_wp2
      rw [Exit.noGoto_ret]
      exact fol_end L2.out rfl rfl rfl ⟨rfl, L2.out.below⟩
    | true =>
      have d2 : decide (near < 0) = true := by simp at h; simpa using h
      clear h
      go_enter Try.func38, Try.ntmps38
      go_wp2
      go_step3
      go_wp2_with fail
      refine hal.mono ?_
      rintro e w1 ⟨rfl, hb⟩
      have L1 := Lib.hid (LL.out.bel hb)
      clear hb LL
      go_wp2_with fail
      refine (hmy _).mono ?_
      rintro e w2 ⟨rfl, hb⟩
      have L1 := L1.out.bel hb
      have hr : RR (w.heap.size + 1) 3 79 _ := L1.rr (List.mem_cons_self ..)
      have c2 := L1.cell (i := 2) (b := w.heap.size) (v := .int .i64 near) (List.mem_cons_of_mem _ (List.mem_cons_self ..)) rfl
      have L2 := Lib.hid (L1.putRow (fol_ne _) (by omega) #[.slice none 0 0, .int .i64 0, .int .i64 0])
      clear L1 hb
      go_wp2
      rw [Exit.noGoto_ret]
      exact fol_end L2.out rfl rfl rfl ⟨rfl, L2.out.below⟩
end Go.Proofs.Ytbgllbjkmjlipaa
