/- The walk of SeqWhole, and the plain law behind it. -/
import Derived.Test.YthdbkjmndmgddaaSeqB
import Derived.Deep.Draws
import Derived.Laws.Rows
namespace Go.Proofs.Ythdbkjmndmgddaa
open Go.RowKit

/-! ### The plain law: what stands in the places when i steps were done -/
/- For each generation g: it stands in its place just if it is whole. -/
def Stand (d i : Nat) (L : List Int) : Prop := L.length = d ∧ ∀ g : Nat, L[g % d]? = some (g : Int) ↔ (g ≤ i / 2 ∧ i / 2 + i % 2 < g + d)

theorem mod_far {d g m : Nat} (h : g % d = m % d) (hlt : g < m) : g + d ≤ m := by
  have h1 := Nat.div_add_mod g d
  have h2 := Nat.div_add_mod m d
  have h3 : g / d < m / d := by
    rcases Nat.lt_or_ge (g / d) (m / d) with h4 | h4
    · exact h4
    · have : d * (m / d) ≤ d * (g / d) := Nat.mul_le_mul_left d h4
      omega
  have h5 : d * (g / d + 1) ≤ d * (m / d) := Nat.mul_le_mul_left d h3
  rw [Nat.mul_add] at h5
  omega

theorem stand_0 (d : Nat) (hd : 2 ≤ d) (L : List Int) (hl : L.length = d) (h0 : L[0]? = some 0) (h1 : ∀ j, 1 ≤ j → j < d → L[j]? = some (-1)) : Stand d 0 L := by
  refine ⟨hl, fun g => ?_⟩
  have hlt : g % d < d := Nat.mod_lt _ (by omega)
  rcases Nat.eq_zero_or_pos (g % d) with h | h
  · rw [h, h0]
    constructor
    · intro e
      simp at e
      omega
    · intro ⟨e, _⟩
      have : g = 0 := by omega
      subst this; rfl
  · rw [h1 _ h hlt]
    constructor
    · intro e
      simp at e
    · intro ⟨e, _⟩
      have : g = 0 := by omega
      subst this; simp at h

theorem stand_take (d i : Nat) (hd : 2 ≤ d) (L : List Int) (h : Stand d i L) (hi : i % 2 = 0) : Stand d (i + 1) (L.set ((i / 2 + 1) % d) (-1)) := by
  obtain ⟨hl, hg⟩ := h
  refine ⟨by simpa using hl, fun g => ?_⟩
  have hlt : g % d < d := Nat.mod_lt _ (by omega)
  have e1 : (i + 1) / 2 = i / 2 := by omega
  have e2 : (i + 1) % 2 = 1 := by omega
  rw [e1, e2]
  by_cases hc : (i / 2 + 1) % d = g % d
  · rw [List.getElem?_set, if_pos hc, if_pos (by omega)]
    constructor
    · intro e; simp at e
    · intro ⟨a, b⟩
      have := mod_far hc.symm (by omega)
      omega
  · rw [List.getElem?_set, if_neg hc, hg g]
    constructor
    · intro ⟨a, b⟩
      refine ⟨a, ?_⟩
      rcases Nat.lt_or_ge (i / 2 + 1) (g + d) with c | c
      · omega
      · have : i / 2 + 1 = g + d := by omega
        rw [this] at hc
        simp at hc
    · intro ⟨a, b⟩; exact ⟨a, by omega⟩

theorem stand_give (d i : Nat) (hd : 2 ≤ d) (L : List Int) (h : Stand d i L) (hi : i % 2 = 1) : Stand d (i + 1) (L.set ((i / 2 + 1) % d) ((i / 2 + 1 : Nat) : Int)) := by
  obtain ⟨hl, hg⟩ := h
  refine ⟨by simpa using hl, fun g => ?_⟩
  have hlt : g % d < d := Nat.mod_lt _ (by omega)
  have e1 : (i + 1) / 2 = i / 2 + 1 := by omega
  have e2 : (i + 1) % 2 = 0 := by omega
  rw [e1, e2]
  by_cases hc : (i / 2 + 1) % d = g % d
  · rw [List.getElem?_set, if_pos hc, if_pos (by omega)]
    constructor
    · intro e
      have e' : ((i / 2 + 1 : Nat) : Int) = (g : Int) := by simpa using e
      omega
    · intro ⟨a, b⟩
      rcases Nat.lt_or_ge g (i / 2 + 1) with c | c
      · have := mod_far hc.symm c
        omega
      · have : g = i / 2 + 1 := by omega
        rw [this]
  · rw [List.getElem?_set, if_neg hc, hg g]
    constructor
    · intro ⟨a, b⟩; exact ⟨by omega, by omega⟩
    · intro ⟨a, b⟩
      refine ⟨?_, by omega⟩
      rcases Nat.lt_or_ge (i / 2) g with c | c
      · have : g = i / 2 + 1 := by omega
        rw [this] at hc
        exact absurd rfl hc
      · exact c

/-! ### A block of numbers that the call made -/
def Ints (w : World) (b : Nat) (L : List Int) : Prop := w.heap[b]? = some (.cells (L.map (Value.int .i64)).toArray 3 (0, 0))
theorem Ints.lt {w : World} {b : Nat} {L : List Int} (h : Ints w b L) : b < w.heap.size := by
  rcases Nat.lt_or_ge b w.heap.size with hlt | hge
  · exact hlt
  · unfold Ints at h; rw [Array.getElem?_eq_none hge] at h; cases h
theorem Ints.cell {w : World} {b : Nat} {L : List Int} (h : Ints w b L) (i : Nat) (hi : i < L.length) : w.cell? ⟨b, i, none⟩ = some (.int .i64 L[i]) := by
  rw [cell_of_row w b i _ 3 (0, 0) h]
  simp [hi]
theorem Ints.frozen {w : World} {b : Nat} {L : List Int} (h : Ints w b L) (i : Nat) : w.frozen? ⟨b, i, none⟩ = false := by
  unfold Ints at h
  simp [World.frozen?, h]
theorem Ints.store {w : World} {b : Nat} {L : List Int} (h : Ints w b L) (i : Nat) (n : Int) : Ints (w.setCell ⟨b, i, none⟩ (.int .i64 n)) b (L.set i n) := by
  unfold Ints at h ⊢
  simp [World.setCell, Array.getElem?_modify, h, List.map_set]

def zeros (d : Nat) : Array Value := ((List.replicate d (0 : Int)).map (Value.int .i64)).toArray
theorem made_zeros (d : Nat) : madeCells (Value.int .i64 0).cells d = zeros d := by
  apply Array.ext'
  unfold madeCells zeros
  simp only [Value.cells, List.map_replicate]
  rw [Array.toList_map]
  apply List.ext_getElem
  · simp
  · intro n h1 h2
    simp [Nat.mod_one]
theorem run_make_ints (d : Nat) (hd : d ≤ 16) (w : World) :
    (Instr.makeSlice 31 (.int .i64 (d : Int)) (.int .i64 (d : Int))).run Try.prog w = .ok (.slice (some ⟨w.heap.size, 0, none⟩) d d) (w.alloc (.cells (zeros d) 3)) := by
  obtain ⟨i0, hi, hz0, hz1, hz2⟩ := info_parts (show (Try.prog.info? 3).map (fun i => (i.zero, i.size, i.bytes)) = some (some (.int .i64 0), 1, 8) by kernel_rfl)
  have hr := run_make (P := Try.prog) w 31 3 i0 (.int .i64 0) Try.underlying31 hi hz0 .i64 .i64 (d : Int) (d : Int) (by omega) (by omega) (by rw [hz2]; omega) (by omega)
  simp only [Int.toNat_natCast] at hr
  rw [hr, hz1, Nat.mul_one, made_zeros]
theorem ints_made (w : World) (d : Nat) : Ints (w.alloc (.cells (zeros d) 3)) w.heap.size (List.replicate d 0) := heap_alloc_new w _

theorem set_upto {L : List Int} {k d : Nat} (hL : L.length = d) (h : L[0]? = some 0 ∧ ∀ j, 1 ≤ j → j < k → L[j]? = some (-1)) (hk : 1 ≤ k) (hlt : k < d) :
    (L.set k (-1))[0]? = some 0 ∧ ∀ j, 1 ≤ j → j < k + 1 → (L.set k (-1))[j]? = some (-1) := by
  refine ⟨by rw [List.getElem?_set, if_neg (by omega)]; exact h.1, fun j h1 h2 => ?_⟩
  rw [List.getElem?_set]
  by_cases c : k = j
  · rw [if_pos c, if_pos (by omega)]
  · rw [if_neg c]; exact h.2 j h1 (by omega)

theorem stand_kept {d i : Nat} {L : List Int} (h : Stand d i L) (hd : 2 ≤ d ∧ d ≤ 16) (g : Nat) (hk : keptB i g d = true) : ∃ hlt : g % d < L.length, L[g % d] = (g : Int) := by
  have hlt : g % d < L.length := by rw [h.1]; exact Nat.mod_lt _ (by omega)
  have h1 := (h.2 g).2 (by unfold keptB at hk; simp at hk; omega)
  rw [List.getElem?_eq_getElem hlt] at h1
  exact ⟨hlt, by injection h1⟩
theorem stand_not {d i : Nat} {L : List Int} (h : Stand d i L) (hd : 2 ≤ d ∧ d ≤ 16) (g : Nat) (hk : keptB i g d = false) : ∃ hlt : g % d < L.length, (L[g % d] == (g : Int)) = false := by
  have hlt : g % d < L.length := by rw [h.1]; exact Nat.mod_lt _ (by omega)
  refine ⟨hlt, ?_⟩
  rw [beq_eq_false_iff_ne]
  intro e
  have h1 := (h.2 g).1 (by rw [List.getElem?_eq_getElem hlt, e])
  unfold keptB at hk
  rw [decide_eq_false_iff_not] at hk
  omega

set_option maxHeartbeats 400000 in
theorem seqWhole_bad (d m g : Int) (h : d < 2 ∨ 16 < d ∨ m < 0 ∨ 200 < m) (w : World) :
    Calls Try.prog 6 #[.int .i64 d, .int .i64 m, .int .u64 g] w fun e w' => e = .returned (.bool true) ∧ w = w' := by
  by_cases c1 : d < 2
  · have b1 : decide (d < 2) = true := by simpa using c1
    go_enter Try.func6, Try.ntmps6
    go_wp2_with (go_at_call 13; refine (awake_any _).mono ?_; rintro e w' ⟨rfl, rfl⟩)
    go_ret
    exact ⟨rfl, rfl⟩
  · have b1 : decide (d < 2) = false := by simpa using c1
    by_cases c2 : 16 < d
    · have b2 : decide (16 < d) = true := by simpa using c2
      go_enter Try.func6, Try.ntmps6
      go_wp2_with (go_at_call 13; refine (awake_any _).mono ?_; rintro e w' ⟨rfl, rfl⟩)
      go_ret
      exact ⟨rfl, rfl⟩
    · have b2 : decide (16 < d) = false := by simpa using c2
      by_cases c3 : m < 0
      · have b3 : decide (m < 0) = true := by simpa using c3
        go_enter Try.func6, Try.ntmps6
        go_wp2_with (go_at_call 13; refine (awake_any _).mono ?_; rintro e w' ⟨rfl, rfl⟩)
        go_ret
        exact ⟨rfl, rfl⟩
      · have b3 : decide (m < 0) = false := by simpa using c3
        have b4 : decide (200 < m) = true := by simp <;> omega
        go_enter Try.func6, Try.ntmps6
        go_wp2_with (go_at_call 13; refine (awake_any _).mono ?_; rintro e w' ⟨rfl, rfl⟩)
        go_ret
        exact ⟨rfl, rfl⟩

def lst (f : Int) (k : Nat) : Int := if f < k then f else -1
theorem lst_at {f : Int} {k : Nat} (h : f = k) : decide (lst f k < 0) = true ∧ (k : Int) = lst f (k + 1) := by
  unfold lst; rw [if_neg (by omega), if_pos (by omega)]; exact ⟨by decide, h.symm⟩
theorem lst_behind {f : Int} {k : Nat} (h0 : 0 ≤ f) (h : f < k) : decide (lst f k < 0) = false ∧ lst f k = lst f (k + 1) := by
  unfold lst; rw [if_pos h, if_pos (by omega)]; exact ⟨by simp <;> omega, rfl⟩
theorem lst_ahead {f : Int} {k : Nat} (h : (k : Int) < f ∨ f < k) : lst f k = lst f (k + 1) := by
  unfold lst; rcases h with h | h
  · rw [if_neg (by omega), if_neg (by omega)]
  · rw [if_pos h, if_pos (by omega)]
theorem lst_end {f : Int} {k : Nat} (h : f < k) : lst f k = f := by unfold lst; rw [if_pos h]
set_option maxHeartbeats 1000000 in
set_option maxRecDepth 100000 in
theorem seqWhole_good (d m : Nat) (g : Int) (hd1 : 2 ≤ d) (hd2 : d ≤ 16) (hm : m ≤ 200) (h2 : 0 ≤ g) (h3 : g ≤ 18446744073709551615) (w : World) :
    Calls Try.prog 6 #[.int .i64 d, .int .i64 m, .int .u64 g] w fun e w' => e = .returned (.bool true) ∧ Below w.heap.size w w' := by
  have b1 : decide ((d : Int) < 2) = false := by simp <;> omega
  have b2 : decide ((16 : Int) < d) = false := by simp <;> omega
  have b3 : decide ((m : Int) < 0) = false := by simp <;> omega
  have b4 : decide ((200 : Int) < m) = false := by simp <;> omega
  have hmk := run_make_ints d hd2
  have HI := Lib.hid (ints_made w d)
  have hB : Below w.heap.size w (w.alloc (.cells (zeros d) 3)) := (Below.refl _ _).alloc (Nat.le_refl _) _
  go_enter Try.func6, Try.ntmps6
  go_wp2
  clear hmk
  go_loopw [8] (fun i wr => ∃ (k : Nat) (L : List Int), 1 ≤ k ∧ k ≤ d ∧ i = .int .i64 k ∧ Hid (L.length = d) ∧ Hid (L[0]? = some 0 ∧ ∀ j, 1 ≤ j → j < k → L[j]? = some (-1)) ∧ Hid (Ints wr w.heap.size L) ∧ Below w.heap.size w wr) (fun i _ => d - (intOf i).toNat)
  case atStart =>
    exact ⟨1, List.replicate d 0, by omega, by omega, rfl, by simp [Hid], ⟨by rw [List.getElem?_replicate]; simp; omega, fun j h1 h2 => by omega⟩, HI, hB⟩
  case round =>
    obtain ⟨k, L, hk1, hk2, rfl, hL, HL, HB, hbl⟩ := hrel
    by_cases hlt : k < d
    · have hc := HB.out.cell k (by rw [hL.out]; exact hlt)
      have hf := HB.out.frozen k
      go_wp2
      go_roundw
      case rel => exact ⟨k + 1, L.set k (-1), by omega, by omega, by go_num, by simpa [Hid] using hL.out, set_upto hL.out HL.out hk1 hlt, HB.out.store k (-1), hbl.setCell (Nat.le_refl _) _⟩
      case measure => simp [intOf]; omega
    · obtain rfl : d = k := by omega
      have HS := Lib.hid (stand_0 d hd1 L hL.out HL.out.1 HL.out.2)
      clear HL hL
      go_wp2
      rename_i wr0 _ _
      go_loopw [9, 10] (fun s i wr => ∃ (k : Nat) (L : List Int), k ≤ m ∧ s = .int .u64 k ∧ i = .int .i64 k ∧ Hid (Stand d k L) ∧ Hid (Ints wr w.heap.size L) ∧ Below w.heap.size w wr) (fun _ i _ => m - (intOf i).toNat)
      case atStart => exact ⟨0, L, by omega, by rfl, by rfl, HS, HB, hbl⟩
      case round =>
        clear HS HB hbl
        obtain ⟨i, L, hi, rfl, rfl, HS, HB, hbl⟩ := hrel
        have q1 : decide ((i : Int) / 2 + 1 < 1) = false := by simp <;> omega
        have q2 : decide ((200 : Int) < (i : Int) / 2 + 1) = false := by simp <;> omega
        have q3 : 0 ≤ ((i : Int) / 2 + 1) % (d : Int) := Int.emod_nonneg _ (by omega)
        have q4 : ((i : Int) / 2 + 1) % (d : Int) < (d : Int) := Int.emod_lt_of_pos _ (by omega)
        by_cases hlt : i < m
        · have hx : (i / 2 + 1) % d < L.length := by rw [HS.out.1]; exact Nat.mod_lt _ (by omega)
          have hc := HB.out.cell ((i / 2 + 1) % d) hx
          have hf := HB.out.frozen ((i / 2 + 1) % d)
          by_cases hp : i % 2 = 1
          · have hh := held_yes (s := (i : Int)) (by omega)
            have HT := Lib.hid (stand_give d i hd1 L HS.out hp)
            clear hp
            go_wp2_with (first
              | (go_at_call 14; refine (gen_any _ _).mono ?_; rintro e w' ⟨rfl, rfl⟩)
              | (go_at_call 15; refine (held_any _ (by omega) (by omega) _).mono ?_; rintro e w' ⟨rfl, rfl⟩)
              | (go_at_call 16; refine (give_held _ (by omega) (by omega) hh _).mono ?_; rintro e w' ⟨rfl, rfl⟩))
            go_roundw
            case rel => exact ⟨i + 1, _, by omega, by go_num, by go_num, HT, by simpa [Hid] using HB.out.store ((i / 2 + 1) % d) ((i / 2 + 1 : Nat) : Int), hbl.setCell (Nat.le_refl _) _⟩
            case measure => simp [intOf]; omega
          · have hh := held_no (s := (i : Int)) (by omega)
            have HT := Lib.hid (stand_take d i hd1 L HS.out (by omega))
            clear hp
            go_wp2_with (first
              | (go_at_call 14; refine (gen_any _ _).mono ?_; rintro e w' ⟨rfl, rfl⟩)
              | (go_at_call 15; refine (held_any _ (by omega) (by omega) _).mono ?_; rintro e w' ⟨rfl, rfl⟩)
              | (go_at_call 17; refine (take_free _ (by omega) (by omega) hh _).mono ?_; rintro e w' ⟨rfl, rfl⟩))
            go_roundw
            case rel => exact ⟨i + 1, _, by omega, by go_num, by go_num, HT, HB.out.store ((i / 2 + 1) % d) (-1), hbl.setCell (Nat.le_refl _) _⟩
            case measure => simp [intOf]; omega
        · obtain rfl : m = i := by omega
          clear q1 q2 q3 q4
          have hfb := first_bd (m : Int) (d : Int) (by omega)
          go_wp2
          go_loop [16, 17] (fun l k => ∃ (k' : Nat), k' ≤ m + 2 ∧ l = .int .i64 (lst (firstI m d) k') ∧ k = .int .i64 k') (fun _ k => m + 2 - (intOf k).toNat)
          case atStart => exact ⟨0, by omega, by unfold lst; rw [if_neg (by omega)], rfl⟩
          case round =>
            obtain ⟨k, hk, rfl, rfl⟩ := hrel
            by_cases hlt : k ≤ m + 1
            · have p0 : 0 ≤ (k : Int) % (d : Int) := Int.emod_nonneg _ (by omega)
              have p1 : (k : Int) % (d : Int) < (d : Int) := Int.emod_lt_of_pos _ (by omega)
              cases hkp : keptB m k d with
              | true =>
                obtain ⟨hx, hv⟩ := stand_kept HS.out ⟨by omega, by omega⟩ k hkp
                have hc := HB.out.cell (k % d) hx
                rw [hv] at hc
                clear hv
                have hkf := (kept_iff (s := (m : Int)) (g := (k : Int)) (d := (d : Int)) (by omega) (by omega)).1 hkp
                by_cases hf : firstI m d = k
                · obtain ⟨z1, z2⟩ := lst_at hf
                  have Z2 := Lib.hid z2
                  clear hf z2 hkf
                  go_wp2_with (go_at_call 9; refine (kept_any _ _ _ (by omega) (by omega) (by omega) (by omega) _).mono ?_; rintro e w' ⟨rfl, rfl⟩)
                  go_round
                  case rel => exact ⟨k + 1, by omega, by rw [Z2.out], by go_num⟩
                  case measure => simp [intOf]; omega
                · obtain ⟨z1, z2⟩ := lst_behind (f := firstI m d) (k := k) (by omega) (by omega)
                  have Z2 := Lib.hid z2
                  clear hf z2 hkf
                  go_wp2_with (go_at_call 9; refine (kept_any _ _ _ (by omega) (by omega) (by omega) (by omega) _).mono ?_; rintro e w' ⟨rfl, rfl⟩)
                  go_round
                  case rel => exact ⟨k + 1, by omega, by rw [Z2.out], by go_num⟩
                  case measure => simp [intOf]; omega
              | false =>
                obtain ⟨hx, hv⟩ := stand_not HS.out ⟨by omega, by omega⟩ k hkp
                have hc := HB.out.cell (k % d) hx
                generalize L[k % d] = v at hc hv
                have hkf := mt (kept_iff (s := (m : Int)) (g := (k : Int)) (d := (d : Int)) (by omega) (by omega)).2 (by rw [hkp]; decide)
                have Z2 := Lib.hid (lst_ahead (f := firstI m d) (k := k) (by omega))
                clear hkf
                go_wp2_with (go_at_call 9; refine (kept_any _ _ _ (by omega) (by omega) (by omega) (by omega) _).mono ?_; rintro e w' ⟨rfl, rfl⟩)
                go_round
                case rel => exact ⟨k + 1, by omega, by rw [Z2.out], by go_num⟩
                case measure => simp [intOf]; omega
            · have z := lst_end (f := firstI m d) (k := k) (by omega)
              rw [z]
              clear z
              have z0 : decide (0 ≤ firstI m d) = true := by simpa using hfb.1
              by_cases c : (m : Int) + 1 < g
              · have z1 : decide ((m : Int) + 1 < g) = true := by simpa using c
                have z2 : keptB m g d = false := (kept_no m g d (by omega)).symm
                go_wp2_with (first
                  | (go_at_call 9; refine (kept_any _ _ _ (by omega) (by omega) (by omega) (by omega) _).mono ?_; rintro e w' ⟨rfl, rfl⟩)
                  | (go_at_call 11; refine (first_any _ _ (by omega) (by omega) _).mono ?_; rintro e w' ⟨rfl, rfl⟩)
                  | (go_at_call 13; refine (awake_any _).mono ?_; rintro e w' ⟨rfl, rfl⟩))
                go_ret
                exact ⟨rfl, hbl⟩
              · have z1 : decide ((m : Int) + 1 < g) = false := by simpa using c
                go_wp2_with (first
                  | (go_at_call 11; refine (first_any _ _ (by omega) (by omega) _).mono ?_; rintro e w' ⟨rfl, rfl⟩)
                  | (go_at_call 13; refine (awake_any _).mono ?_; rintro e w' ⟨rfl, rfl⟩))
                go_ret
                exact ⟨rfl, hbl⟩
end Go.Proofs.Ythdbkjmndmgddaa
