/- bits.Split and aileronref02.Split: the numbers of a word in a row. -/
import Derived.Test.YtlchbjocemegbaaK
namespace Go.Proofs.Ytlchbjocemegbaa
open Go.RowKit Go.Shelf
attribute [local go_sem ↓] Go.wp_at_zero Go.wp_at_succ

theorem Try.info24 : (Try.prog.info? 24).map (fun i => (i.zero, i.size, i.bytes)) = some (some (.int .u64 0), 1, 8) := by kernel_rfl
def wordsOf (l : List Nat) : List Value := l.map fun x => .int .u64 (x : Nat)
def getsOf (fs : List (Nat × Nat)) (x : Nat) : List Nat := fs.map fun f => getW f.1 f.2 x
def splitF (zs : List Int) (x : Nat) : List Nat := getsOf (fieldsOf zs) x
theorem getsOf_take {fs : List (Nat × Nat)} {x k : Nat} (h : k < fs.length) : getsOf (fs.take (k + 1)) x = getsOf (fs.take k) x ++ [getW (fs[k]?.getD (0, 0)).1 (fs[k]?.getD (0, 0)).2 x] := by
  unfold getsOf
  rw [List.take_succ_eq_append_getElem h, List.map_append]
  simp only [List.getElem?_eq_getElem h, Option.getD_some, List.map_cons, List.map_nil]
theorem wordsOf_snoc (l : List Nat) (x : Nat) : wordsOf (l ++ [x]) = wordsOf l ++ [.int .u64 x] := by simp [wordsOf]
theorem getsOf_len (fs : List (Nat × Nat)) (x k : Nat) (h : k ≤ fs.length) : (getsOf (fs.take k) x).length = k := by simp [getsOf, h]

def SplitPost (w : World) (zs : List Int) (x : Nat) (e : Ending) (W' : World) : Prop :=
  ∃ v, e = .returned (.tuple #[v, .int .i64 (rowGo 0 zs).2]) ∧ W'.ownsRow w.heap.size 24 1 v (splitF zs x).length (wordsOf (splitF zs x)) ∧ Below w.heap.size w W'
def EachPost (w : World) (fs : List (Nat × Nat)) (x : Nat) (e : Ending) (W' : World) : Prop :=
  ∃ v, e = .returned v ∧ W'.ownsRow w.heap.size 24 1 v (getsOf fs x).length (wordsOf (getsOf fs x)) ∧ Below w.heap.size w W'
theorem ok_get {a l : Nat} (h : okF (a, l)) (x : Nat) : getF a l x = getW a l x := by simp [getF, ok_may h]

theorem own_below {W W' : World} {base : Nat} {e : TypeId} {size n : Nat} {v : Value} {xs : List Value} (h : W.ownsRow base e size v n xs) (hb : Below W.heap.size W W') : W'.ownsRow base e size v n xs := by
  refine ⟨h.1, ?_⟩
  rcases h.2 with h2 | ⟨g, cap, cur, hv, hg, hh, r⟩
  · exact .inl h2
  · exact .inr ⟨g, cap, cur, hv, hg, (hb.block g (Array.getElem?_eq_some_iff.1 hh).1).trans hh, r⟩

theorem own_base {W : World} {B B' : Nat} {e : TypeId} {size n : Nat} {v : Value} {xs : List Value} (h : W.ownsRow B' e size v n xs) (hb : B ≤ B') : W.ownsRow B e size v n xs :=
  ⟨h.1, h.2.imp id fun ⟨g, cap, cur, hv, hg, r⟩ => ⟨g, cap, cur, hv, Nat.le_trans hb hg, r⟩⟩

set_option maxRecDepth 100000 in
set_option maxHeartbeats 2000000 in
theorem each_any (v : Value) (fs : List (Nat × Nat)) (hok : ∀ f ∈ fs, okF f) (h64 : fs.length ≤ 64) (x : Nat) (hx : x < 18446744073709551616) (w : World) (hv : Flds w v fs.length fs) :
    Calls Try.prog 38 #[v, .int .u64 x, .func (.func 16) #[] #[]] w (EachPost w fs x) := by
  obtain ⟨i0, hi, hz0, hz1, hz2⟩ := info_parts Try.info24
  obtain ⟨_, A, cap, rfl, hcell⟩ := hv
  have HCL := Lib.hid hcell
  have HF := Lib.hid hok
  clear hcell hok
  go_enter Try.func38, Try.ntmps38
  go_wp2
  go_loopw [7, 12] (fun v i wr => ∃ k : Nat, k ≤ fs.length ∧ i = .int .i64 k ∧ Hid (wr.ownsRow w.heap.size 24 1 v k (wordsOf (getsOf (fs.take k) x))) ∧ Below w.heap.size w wr) (fun _ i _ => fs.length - (intOf i).toNat)
  case atStart => exact ⟨0, by omega, rfl, by simp [getsOf, wordsOf]; exact World.ownsRow_nil _ _ _ _, Below.refl _ _⟩
  case round =>
    obtain ⟨k, hk, rfl, HR, hb⟩ := hrel
    by_cases hlt : k < fs.length
    · obtain ⟨g, rfl, hg, hcA, hcL⟩ := HCL.out k hlt
      have hcA' := (hb.cell (p := ⟨g, k * 2, none⟩) hg).trans hcA
      have hcL' := (hb.cell (p := ⟨g, k * 2 + 1, none⟩) hg).trans hcL
      have hok := getD_ok HF.out hlt
      have HT := Lib.hid (getsOf_take (x := x) hlt)
      have hsz := hb.size
      clear hcA hcL
      generalize fs[k]?.getD (0, 0) = f at hcA' hcL' hok HT
      obtain ⟨a, l⟩ := f
      dsimp only at hcA' hcL' HT
      have hgt := ok_get hok x
      have hR0 := Lib.hid (HR.out.alloc (Obj.cells #[Value.int IntKind.i64 a, Value.int IntKind.i64 l] 23))
      go_wp2_with (first
        | (go_at_call 16; refine (get_any a l x hx _).mono ?_; rintro e w1 ⟨rfl, hb1⟩; have hR1 := own_below hR0.out hb1; have hbw1 : Below w.heap.size w w1 := (hb.alloc hsz _).trans (hb1.mono (by simp <;> omega)))
        | (at_builtin; go_must (refine wpList_append_own _ rfl _ _ 56 rfl w.heap.size 24 i0 _ 1 8 Try.underlying56 hi hz0 hz1 hz2 rfl (by decide) _ _ _ rfl (hR1.alloc _) ⟨w1.heap.size, 0, none⟩ 1 1 [.int .u64 (getW a l x : Nat)] rfl rfl (cell_one_new _ _ _) (by simp [Value.oneCell']) (by unfold maxLen; omega) (by omega) (by have := hbw1.size; simp <;> omega) ?_); intro v' w2 hown' hgrow _; have hb2 := below_append hbw1 hbw1.size hR1 hgrow))
      go_roundw
      case rel => exact ⟨k + 1, by omega, by go_num, by rw [HT.out, wordsOf_snoc]; exact hown', hb2⟩
      case measure => simp [intOf]; omega
    · obtain rfl : k = fs.length := by omega
      have hd : decide (fs.length < fs.length) = false := by simp
      go_wp2
      go_ret
      refine ⟨_, rfl, ?_, hb⟩
      have h := HR.out
      rw [List.take_length] at h
      simpa [getsOf] using h

set_option maxRecDepth 100000 in
set_option maxHeartbeats 2000000 in
theorem split_any (A : Option Addr) (len cap : Nat) (zs : List Int) (hlen : len ≤ 80) (x : Nat) (hx : x < 18446744073709551616) (w : World) (hN : Nums w w.heap.size A len zs) :
    Calls Try.prog 30 #[.slice A len cap, .int .u64 x] w (SplitPost w zs x) := by
  by_cases c0 : (rowGo 0 zs).2 = 0
  · have hc0 : ((rowGo 0 zs).2 != 0) = false := by simp [bne, c0]
    have HC := Lib.hid c0
    clear c0
    go_enter Try.func30, Try.ntmps30
    go_wp2_with fail
    refine (row_fields A len cap zs hlen _ hN).mono ?_
    rintro e w1 ⟨v, rfl, hown, hb1⟩
    have HF := Lib.hid (flds_of_own hown)
    go_wp2_with fail
    refine (each_any v (fieldsOf zs) (fieldsOf_ok zs) (fieldsOf_len zs) x hx w1 HF.out).mono ?_
    rintro e w2 ⟨v2, rfl, hown2, hb2⟩
    go_wp2
    go_ret2
    refine ⟨v2, by rw [HC.out]; rfl, ?_, hb1.trans (hb2.mono hb1.size)⟩
    exact ⟨hown2.1, hown2.2.imp id fun ⟨g, cap, cur, hv, hg, r⟩ => ⟨g, cap, cur, hv, Nat.le_trans hb1.size hg, r⟩⟩
  · have hc0 : ((rowGo 0 zs).2 != 0) = true := by simp [bne, c0]
    have HT := Lib.hid (show splitF zs x = [] by unfold splitF fieldsOf; rw [if_neg c0]; rfl)
    clear c0
    go_enter Try.func30, Try.ntmps30
    go_wp2_with fail
    refine (row_fields A len cap zs hlen _ hN).mono ?_
    rintro e w1 ⟨v, rfl, hown, hb1⟩
    go_wp2
    go_ret2
    exact ⟨.slice none 0 0, rfl, by rw [HT.out]; exact World.ownsRow_nil _ _ _ _, hb1⟩

set_option maxRecDepth 100000 in
set_option maxHeartbeats 2000000 in
theorem rsplit_any (A : Option Addr) (len cap : Nat) (zs : List Int) (hlen : len ≤ 80) (x : Nat) (hx : x < 18446744073709551616) (w : World) (hN : Nums w w.heap.size A len zs) :
    Calls Try.prog 31 #[.slice A len cap, .int .u64 x] w (SplitPost w zs x) := by
  obtain ⟨i0, hi, hz0, hz1, hz2⟩ := info_parts Try.info24
  by_cases c0 : (rowGo 0 zs).2 = 0
  · have hc0 : ((rowGo 0 zs).2 != 0) = false := by simp [bne, c0]
    have HC := Lib.hid c0
    clear c0
    have HF := Lib.hid (fieldsOf_ok zs)
    have h64 := fieldsOf_len zs
    go_enter Try.func31, Try.ntmps31
    go_wp2_with fail
    refine (rrow_any A len cap zs hlen _ hN).mono ?_
    rintro e w0 ⟨v, rfl, hown, hb0⟩
    obtain ⟨_, A1, cap1, rfl, hcell⟩ := flds_of_own hown
    have HCL := Lib.hid hcell
    clear hcell hown hN
    go_wp2_with fail
    go_loopw [8, 9] (fun v i wr => ∃ k : Nat, k ≤ (fieldsOf zs).length ∧ i = .int .i64 k ∧ Hid (wr.ownsRow w0.heap.size 24 1 v k (wordsOf (getsOf ((fieldsOf zs).take k) x))) ∧ Below w0.heap.size w0 wr) (fun _ i _ => (fieldsOf zs).length - (intOf i).toNat)
    case atStart => exact ⟨0, by omega, rfl, by simp [getsOf, wordsOf]; exact World.ownsRow_nil _ _ _ _, Below.refl _ _⟩
    case round =>
      obtain ⟨k, hk, rfl, HR, hb⟩ := hrel
      by_cases hlt : k < (fieldsOf zs).length
      · obtain ⟨g, rfl, hg, hcA, hcL⟩ := HCL.out k hlt
        have hcA' := (hb.cell (p := ⟨g, k * 2, none⟩) hg).trans hcA
        have hcL' := (hb.cell (p := ⟨g, k * 2 + 1, none⟩) hg).trans hcL
        have hok := getD_ok HF.out hlt
        have HT := Lib.hid (getsOf_take (x := x) hlt)
        have hsz := hb.size
        clear hcA hcL
        generalize (fieldsOf zs)[k]?.getD (0, 0) = f at hcA' hcL' hok HT
        obtain ⟨a, l⟩ := f
        dsimp only at hcA' hcL' HT
        have hgt := ok_get hok x
        go_wp2_with (first
          | (go_at_call 17; refine (rget_any a l x hx _).mono ?_; rintro e w1 ⟨rfl, hb1⟩; have hR1 := own_below HR.out hb1; have hbw1 : Below w0.heap.size w0 w1 := hb.trans (hb1.mono hsz))
          | (at_builtin; go_must (refine wpList_append_own _ rfl _ _ 56 rfl w0.heap.size 24 i0 _ 1 8 Try.underlying56 hi hz0 hz1 hz2 rfl (by decide) _ _ _ rfl (hR1.alloc _) ⟨w1.heap.size, 0, none⟩ 1 1 [.int .u64 (getW a l x : Nat)] rfl rfl (cell_one_new _ _ _) (by simp [Value.oneCell']) (by unfold maxLen; omega) (by omega) (by have := hbw1.size; simp <;> omega) ?_); intro v' w2 hown' hgrow _; have hb2 := below_append hbw1 hbw1.size hR1 hgrow))
        go_roundw
        case rel => exact ⟨k + 1, by omega, by go_num, by rw [HT.out, wordsOf_snoc]; exact hown', hb2⟩
        case measure => simp [intOf]; omega
      · obtain rfl : k = (fieldsOf zs).length := by omega
        have hd : decide ((fieldsOf zs).length < (fieldsOf zs).length) = false := by simp
        go_wp2
        go_ret2
        refine ⟨_, by rw [HC.out]; rfl, ?_, hb0.trans (hb.mono hb0.size)⟩
        have h := HR.out
        rw [List.take_length] at h
        have h := own_base h hb0.size
        simpa [splitF, getsOf] using h
  · have hc0 : ((rowGo 0 zs).2 != 0) = true := by simp [bne, c0]
    have HT := Lib.hid (show splitF zs x = [] by unfold splitF fieldsOf; rw [if_neg c0]; rfl)
    clear c0
    go_enter Try.func31, Try.ntmps31
    go_wp2_with fail
    refine (rrow_any A len cap zs hlen _ hN).mono ?_
    rintro e w1 ⟨v, rfl, hown, hb1⟩
    go_wp2
    go_ret2
    exact ⟨.slice none 0 0, rfl, by rw [HT.out]; exact World.ownsRow_nil _ _ _ _, hb1⟩
end Go.Proofs.Ytlchbjocemegbaa
