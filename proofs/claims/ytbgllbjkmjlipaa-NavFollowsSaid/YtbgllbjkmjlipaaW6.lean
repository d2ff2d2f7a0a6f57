/- Contract: the document's Fence. -/
import Derived.Test.YtbgllbjkmjlipaaW5
namespace Go.Proofs.Ytbgllbjkmjlipaa
open Go.RowKit Go.Shelf
attribute [local go_sem] fmt64
theorem rr39s (W : World) (o : Obj) (a b : Value) : RR (W.heap.size + 1) 2 39 ((W.alloc o).alloc (.cells #[a, b] 39)) := by
  have := rr39 (W.alloc o) a b
  rwa [World.size_alloc] at this
theorem setRow_alloc2' (W : World) (o : Obj) (c c' : Array Value) (t : TypeId) : ((W.alloc o).alloc (.cells c t)).setRow (W.heap.size + 1) c' = (W.alloc o).alloc (.cells c' t) := by
  have := World.setRow_alloc_new (W.alloc o) c c' t
  rwa [World.size_alloc] at this
attribute [local go_sem ↓] st39
attribute [local go_sem] st39_run World.setRow_alloc_new rr39 rr39s setRow_alloc2'

def Zbs (W : World) (B : Nat) (A : Option Addr) (n : Nat) (f : Nat → Int × Int) : Prop :=
  ∀ k, k < n → ∃ b off, A = some ⟨b, off, none⟩ ∧ b < B ∧ W.cell? ⟨b, off + k * 2, none⟩ = some (.int .i64 (f k).1) ∧ W.cell? ⟨b, off + k * 2 + 1, none⟩ = some (.int .i64 (f k).2)
def nxt (n k : Nat) : Nat := (k + 1) % n
theorem wr6 {n : Int} (h : -9007199254740992 < n ∧ n < 9007199254740992) : IntKind.i64.wrap n = n := IntWalk.i64_in _ (by omega)
theorem mul_in6 {a c : Int} (ha : a.natAbs < 4194304) (hc : c.natAbs < 4194304) : -9007199254740992 < a * c ∧ a * c < 9007199254740992 := by
  have := mul_bd ha hc
  omega
theorem par_flip (cnt : Nat) : (decide (cnt % 2 = 1) ^^ true) = decide ((cnt + 1) % 2 = 1) := by
  by_cases c : cnt % 2 = 1
  · simp [c, show ¬ (cnt + 1) % 2 = 1 by omega]
  · simp [c, show (cnt + 1) % 2 = 1 by omega]
set_option maxRecDepth 100000 in
set_option maxHeartbeats 4000000 in
theorem rfence_any (A : Option Addr) (n cap : Nat) (f : Nat → Int × Int) (hn : n ≤ 100) (u v : Int) (hu : u.natAbs < 1048576) (hv : v.natAbs < 1048576) (hf : ∀ k, k < n → (f k).1.natAbs < 1048576 ∧ (f k).2.natAbs < 1048576) (w : World) (hN : Zbs w w.heap.size A n f) :
    Calls Try.prog 17 #[.slice A n cap, zz u v] w fun e w' => e = .returned (.bool (anyK u v f (fun k => f (nxt n k)) n || oddK u v f (fun k => f (nxt n k)) n)) ∧ Below w.heap.size w w' := by
  have HN := Lib.hid hN
  have HF := Lib.hid hf
  clear hN hf
  have hr0 := heap_alloc_new w (.cells #[.int .i64 u, .int .i64 v] 39)
  have hB0 := (Below.refl w.heap.size w).alloc (Nat.le_refl _) (.cells #[.int .i64 u, .int .i64 v] 39)
  go_enter Try.func17, Try.ntmps17
  go_wp2
  go_loopw [5, 6] (fun c i wr => ∃ (k cnt : Nat), k ≤ n ∧ cnt ≤ k ∧ i = .int .i64 k ∧ c = .int .i64 cnt ∧ Hid (anyK u v f (fun k => f (nxt n k)) k = false) ∧ Hid (oddK u v f (fun k => f (nxt n k)) k = decide (cnt % 2 = 1)) ∧ Hid (wr.heap[w.heap.size]? = some (.cells #[.int .i64 u, .int .i64 v] 39 (0, 0))) ∧ Below w.heap.size w wr)
    (fun _ i _ => n - (intOf i).toNat)
  case atStart => exact ⟨0, 0, Nat.zero_le _, Nat.le_refl _, rfl, rfl, Lib.hid rfl, Lib.hid rfl, Lib.hid hr0, hB0⟩
  case round =>
    clear hr0 hB0
    obtain ⟨k, cnt, hk, hck, rfl, rfl, HA, HO, HZ, hb⟩ := hrel
    by_cases hlt : k < n
    · obtain ⟨b, off, rfl, hbl, h0, h1⟩ := HN.out k hlt
      have hnx : nxt n k < n := Nat.mod_lt _ (by omega)
      obtain ⟨_, _, e_, _, h2, h3⟩ := HN.out _ hnx
      cases e_
      have ba := HF.out k hlt
      have bb := HF.out _ hnx
      have hrem : ((k : Int) + 1).tmod (n : Int) = ((nxt n k : Nat) : Int) := by
        unfold nxt
        rw [Int.tmod_eq_emod_of_nonneg (by omega), Int.natCast_emod, Int.natCast_add]
        rfl
      have hro := ref_on u v (f k).1 (f k).2 (f (nxt n k)).1 (f (nxt n k)).2
      have hrf := ref_flip u v (f k).1 (f k).2 (f (nxt n k)).1 (f (nxt n k)).2
      have HA1 : Hid (anyK u v f (fun k => f (nxt n k)) (k + 1) = (anyK u v f (fun k => f (nxt n k)) k || onP u v ((f k).1, (f k).2) ((f (nxt n k)).1, (f (nxt n k)).2))) := Lib.hid rfl
      have HO1 : Hid (oddK u v f (fun k => f (nxt n k)) (k + 1) = (oddK u v f (fun k => f (nxt n k)) k ^^ flipP u v ((f k).1, (f k).2) ((f (nxt n k)).1, (f (nxt n k)).2))) := Lib.hid rfl
      have HY : Hid (onP u v ((f k).1, (f k).2) ((f (nxt n k)).1, (f (nxt n k)).2) = true → anyK u v f (fun k => f (nxt n k)) n = true) := Lib.hid fun h => anyK_yes hlt h
      have hsz := hb.size
      have hzl : w.heap.size < wr.heap.size := (Array.getElem?_eq_some_iff.1 HZ.out).1
      have c0 := (hb.cell (p := ⟨b, off + k * 2, none⟩) hbl).trans h0
      have c1 := (hb.cell (p := ⟨b, off + k * 2 + 1, none⟩) hbl).trans h1
      have hb1 := hb.alloc hsz (Obj.cells #[.int .i64 (f k).1, .int .i64 (f k).2] 39)
      have d0 := (hb1.cell (p := ⟨b, off + nxt n k * 2, none⟩) hbl).trans h2
      have d1 := (hb1.cell (p := ⟨b, off + nxt n k * 2 + 1, none⟩) hbl).trans h3
      generalize nxt n k = nx at *
      generalize (f k).1 = ar at *
      generalize (f k).2 = ai at *
      generalize (f nx).1 = br at *
      generalize (f nx).2 = bi at *
      have hb2 := hb1.alloc (by simp; omega) (Obj.cells #[.int .i64 br, .int .i64 bi] 39)
      have rz : ((wr.alloc (Obj.cells #[.int .i64 ar, .int .i64 ai] 39)).alloc (Obj.cells #[.int .i64 br, .int .i64 bi] 39)).heap[w.heap.size]? = some (.cells #[.int .i64 u, .int .i64 v] 39 (0, 0)) := by
        rw [Below.heap_alloc _ _ _ (by simp; omega), Below.heap_alloc _ _ _ hzl]; exact HZ.out
      have ra : ((wr.alloc (Obj.cells #[.int .i64 ar, .int .i64 ai] 39)).alloc (Obj.cells #[.int .i64 br, .int .i64 bi] 39)).heap[wr.heap.size]? = some (.cells #[.int .i64 ar, .int .i64 ai] 39 (0, 0)) := by
        rw [Below.heap_alloc _ _ _ (by simp)]; exact heap_alloc_new wr _
      have rb := two_allocs wr (Obj.cells #[.int .i64 ar, .int .i64 ai] 39) #[.int .i64 br, .int .i64 bi] 39
      have z0 := cell_of_row _ _ 0 _ _ _ rz
      have z1 := cell_of_row _ _ 1 _ _ _ rz
      have a0 := cell_of_row _ _ 0 _ _ _ ra
      have a1 := cell_of_row _ _ 1 _ _ _ ra
      have b0 := cell_of_row _ _ 0 _ _ _ rb
      have b1 := cell_of_row _ _ 1 _ _ _ rb
      simp only [List.getElem?_toArray, List.getElem?_cons_zero, List.getElem?_cons_succ] at z0 z1 a0 a1 b0 b1
      have RZ := Lib.hid rz
      have HB2 := Lib.hid hb2
      have q1 : IntKind.i64.wrap (u - ar) = u - ar := wr6 (by omega)
      have q2 : IntKind.i64.wrap (bi - ai) = bi - ai := wr6 (by omega)
      have q3 : IntKind.i64.wrap (br - ar) = br - ar := wr6 (by omega)
      have q4 : IntKind.i64.wrap (v - ai) = v - ai := wr6 (by omega)
      have q5 : IntKind.i64.wrap ((u - ar) * (bi - ai)) = (u - ar) * (bi - ai) := wr6 (mul_in6 (by omega) (by omega))
      have q6 : IntKind.i64.wrap ((br - ar) * (v - ai)) = (br - ar) * (v - ai) := wr6 (mul_in6 (by omega) (by omega))
      have q7 : IntKind.i64.wrap ((k : Int) + 1) = (k : Int) + 1 := wr6 (by omega)
      have i1 : (0 : Int) ≤ (nx : Int) := by omega
      have i2 : (nx : Int) < (n : Int) := by omega
      obtain ⟨L, hL⟩ : ∃ x, (u - ar) * (bi - ai) = x := ⟨_, rfl⟩
      obtain ⟨Q, hQ⟩ : ∃ x, (br - ar) * (v - ai) = x := ⟨_, rfl⟩
      rw [hL, hQ] at hro hrf
      rw [hL] at q5
      rw [hQ] at q6
      clear rz ra rb hb1 hb2 h0 h1 h2 h3 ba bb hb hzl
      obtain ⟨E, hE⟩ : ∃ x, (L == Q) = x := ⟨_, rfl⟩
      obtain ⟨B1, hB1⟩ : ∃ x, btB u ar br = x := ⟨_, rfl⟩
      obtain ⟨B2, hB2⟩ : ∃ x, btB v ai bi = x := ⟨_, rfl⟩
      obtain ⟨G1, hG1⟩ : ∃ x, decide (v < ai) = x := ⟨_, rfl⟩
      obtain ⟨G2, hG2⟩ : ∃ x, decide (v < bi) = x := ⟨_, rfl⟩
      obtain ⟨H1, hH1⟩ : ∃ x, decide (ai < bi) = x := ⟨_, rfl⟩
      obtain ⟨H2, hH2⟩ : ∃ x, decide (bi < ai) = x := ⟨_, rfl⟩
      obtain ⟨P1, hP1⟩ : ∃ x, decide (L < Q) = x := ⟨_, rfl⟩
      obtain ⟨P2, hP2⟩ : ∃ x, decide (Q < L) = x := ⟨_, rfl⟩
      rw [hE, hB1, hB2] at hro
      rw [hG1, hG2, hH1, hH2, hP1, hP2] at hrf
      have hbt1 := between_any u ar br
      have hbt2 := between_any v ai bi
      rw [hB1] at hbt1
      rw [hB2] at hbt2
      have HGH : Hid (G1 = false → G2 = true → H1 = true) := Lib.hid fun h1 h2 => by
        rw [← hG1] at h1; rw [← hG2] at h2; rw [← hH1]; simp at h1 h2 ⊢; omega
      have HGH2 : Hid (G1 = true → G2 = false → H1 = false ∧ H2 = true) := Lib.hid fun h1 h2 => by
        rw [← hG1] at h1; rw [← hG2] at h2; rw [← hH1, ← hH2]; simp at h1 h2 ⊢; omega
      have HRO := Lib.hid hro
      have HRF := Lib.hid hrf
      clear hro hrf hB1 hB2
      have hcw : IntKind.i64.wrap ((cnt : Int) + 1) = ((cnt + 1 : Nat) : Int) := by rw [wr6 (by omega)]; simp
      cases E with
      | false =>
        have ON : Hid (onP u v (ar, ai) (br, bi) = false) := Lib.hid (by rw [HRO.out]; rfl)
        cases G1 with
        | false =>
          cases G2 with
          | false =>
            have FL : Hid (flipP u v (ar, ai) (br, bi) = false) := Lib.hid (by rw [HRF.out ON.out]; rfl)
            clear HRF HRO HY HGH HGH2
            go_wp2
            go_roundw
            case rel => exact ⟨k + 1, cnt, by omega, by omega, by go_num, by go_num, Lib.hid (by rw [HA1.out, HA.out, ON.out]; rfl), Lib.hid (by rw [HO1.out, HO.out, FL.out, Bool.xor_false]), RZ, HB2.out⟩
            case measure => simp [intOf]; omega
          | true =>
            obtain rfl := HGH.out rfl rfl
            cases P1 with
            | false =>
              have hH2f : H2 = false := by rw [← hH2]; simp at hH1 ⊢; omega
              subst hH2f
              have FL : Hid (flipP u v (ar, ai) (br, bi) = false) := Lib.hid (by rw [HRF.out ON.out]; rfl)
              clear HRF HRO HY HGH HGH2
              go_wp2
              go_roundw
              case rel => exact ⟨k + 1, cnt, by omega, by omega, by go_num, by go_num, Lib.hid (by rw [HA1.out, HA.out, ON.out]; rfl), Lib.hid (by rw [HO1.out, HO.out, FL.out, Bool.xor_false]), RZ, HB2.out⟩
              case measure => simp [intOf]; omega
            | true =>
              have FL : Hid (flipP u v (ar, ai) (br, bi) = true) := Lib.hid (by rw [HRF.out ON.out]; rfl)
              clear HRF HRO HY HGH HGH2
              go_wp2
              go_roundw
              case rel => exact ⟨k + 1, cnt + 1, by omega, by omega, by go_num, by go_num, Lib.hid (by rw [HA1.out, HA.out, ON.out]; rfl), Lib.hid (by rw [HO1.out, HO.out, FL.out]; exact par_flip cnt), RZ, HB2.out⟩
              case measure => simp [intOf]; omega
        | true =>
          cases G2 with
          | false =>
            obtain ⟨rfl, rfl⟩ := HGH2.out rfl rfl
            cases P2 with
            | false =>
              have FL : Hid (flipP u v (ar, ai) (br, bi) = false) := Lib.hid (by rw [HRF.out ON.out]; rfl)
              clear HRF HRO HY HGH HGH2
              go_wp2
              go_roundw
              case rel => exact ⟨k + 1, cnt, by omega, by omega, by go_num, by go_num, Lib.hid (by rw [HA1.out, HA.out, ON.out]; rfl), Lib.hid (by rw [HO1.out, HO.out, FL.out, Bool.xor_false]), RZ, HB2.out⟩
              case measure => simp [intOf]; omega
            | true =>
              have FL : Hid (flipP u v (ar, ai) (br, bi) = true) := Lib.hid (by rw [HRF.out ON.out]; rfl)
              clear HRF HRO HY HGH HGH2
              go_wp2
              go_roundw
              case rel => exact ⟨k + 1, cnt + 1, by omega, by omega, by go_num, by go_num, Lib.hid (by rw [HA1.out, HA.out, ON.out]; rfl), Lib.hid (by rw [HO1.out, HO.out, FL.out]; exact par_flip cnt), RZ, HB2.out⟩
              case measure => simp [intOf]; omega
          | true =>
            have FL : Hid (flipP u v (ar, ai) (br, bi) = false) := Lib.hid (by rw [HRF.out ON.out]; rfl)
            clear HRF HRO HY HGH HGH2
            go_wp2
            go_roundw
            case rel => exact ⟨k + 1, cnt, by omega, by omega, by go_num, by go_num, Lib.hid (by rw [HA1.out, HA.out, ON.out]; rfl), Lib.hid (by rw [HO1.out, HO.out, FL.out, Bool.xor_false]), RZ, HB2.out⟩
            case measure => simp [intOf]; omega
      | true =>
        cases B1 with
        | false =>
          have ON : Hid (onP u v (ar, ai) (br, bi) = false) := Lib.hid (by rw [HRO.out]; rfl)
          cases G1 with
          | false =>
            cases G2 with
            | false =>
              have FL : Hid (flipP u v (ar, ai) (br, bi) = false) := Lib.hid (by rw [HRF.out ON.out]; rfl)
              clear HRF HRO HY HGH HGH2
              go_wp2_with fail
              refine (hbt1 _).mono ?_
              rintro e w_ ⟨rfl, rfl⟩
              go_wp2
              go_roundw
              case rel => exact ⟨k + 1, cnt, by omega, by omega, by go_num, by go_num, Lib.hid (by rw [HA1.out, HA.out, ON.out]; rfl), Lib.hid (by rw [HO1.out, HO.out, FL.out, Bool.xor_false]), RZ, HB2.out⟩
              case measure => simp [intOf]; omega
            | true =>
              obtain rfl := HGH.out rfl rfl
              cases P1 with
              | false =>
                have hH2f : H2 = false := by rw [← hH2]; simp at hH1 ⊢; omega
                subst hH2f
                have FL : Hid (flipP u v (ar, ai) (br, bi) = false) := Lib.hid (by rw [HRF.out ON.out]; rfl)
                clear HRF HRO HY HGH HGH2
                go_wp2_with fail
                refine (hbt1 _).mono ?_
                rintro e w_ ⟨rfl, rfl⟩
                go_wp2
                go_roundw
                case rel => exact ⟨k + 1, cnt, by omega, by omega, by go_num, by go_num, Lib.hid (by rw [HA1.out, HA.out, ON.out]; rfl), Lib.hid (by rw [HO1.out, HO.out, FL.out, Bool.xor_false]), RZ, HB2.out⟩
                case measure => simp [intOf]; omega
              | true =>
                have FL : Hid (flipP u v (ar, ai) (br, bi) = true) := Lib.hid (by rw [HRF.out ON.out]; rfl)
                clear HRF HRO HY HGH HGH2
                go_wp2_with fail
                refine (hbt1 _).mono ?_
                rintro e w_ ⟨rfl, rfl⟩
                go_wp2
                go_roundw
                case rel => exact ⟨k + 1, cnt + 1, by omega, by omega, by go_num, by go_num, Lib.hid (by rw [HA1.out, HA.out, ON.out]; rfl), Lib.hid (by rw [HO1.out, HO.out, FL.out]; exact par_flip cnt), RZ, HB2.out⟩
                case measure => simp [intOf]; omega
          | true =>
            cases G2 with
            | false =>
              obtain ⟨rfl, rfl⟩ := HGH2.out rfl rfl
              cases P2 with
              | false =>
                have FL : Hid (flipP u v (ar, ai) (br, bi) = false) := Lib.hid (by rw [HRF.out ON.out]; rfl)
                clear HRF HRO HY HGH HGH2
                go_wp2_with fail
                refine (hbt1 _).mono ?_
                rintro e w_ ⟨rfl, rfl⟩
                go_wp2
                go_roundw
                case rel => exact ⟨k + 1, cnt, by omega, by omega, by go_num, by go_num, Lib.hid (by rw [HA1.out, HA.out, ON.out]; rfl), Lib.hid (by rw [HO1.out, HO.out, FL.out, Bool.xor_false]), RZ, HB2.out⟩
                case measure => simp [intOf]; omega
              | true =>
                have FL : Hid (flipP u v (ar, ai) (br, bi) = true) := Lib.hid (by rw [HRF.out ON.out]; rfl)
                clear HRF HRO HY HGH HGH2
                go_wp2_with fail
                refine (hbt1 _).mono ?_
                rintro e w_ ⟨rfl, rfl⟩
                go_wp2
                go_roundw
                case rel => exact ⟨k + 1, cnt + 1, by omega, by omega, by go_num, by go_num, Lib.hid (by rw [HA1.out, HA.out, ON.out]; rfl), Lib.hid (by rw [HO1.out, HO.out, FL.out]; exact par_flip cnt), RZ, HB2.out⟩
                case measure => simp [intOf]; omega
            | true =>
              have FL : Hid (flipP u v (ar, ai) (br, bi) = false) := Lib.hid (by rw [HRF.out ON.out]; rfl)
              clear HRF HRO HY HGH HGH2
              go_wp2_with fail
              refine (hbt1 _).mono ?_
              rintro e w_ ⟨rfl, rfl⟩
              go_wp2
              go_roundw
              case rel => exact ⟨k + 1, cnt, by omega, by omega, by go_num, by go_num, Lib.hid (by rw [HA1.out, HA.out, ON.out]; rfl), Lib.hid (by rw [HO1.out, HO.out, FL.out, Bool.xor_false]), RZ, HB2.out⟩
              case measure => simp [intOf]; omega
        | true =>
          cases B2 with
          | false =>
            have ON : Hid (onP u v (ar, ai) (br, bi) = false) := Lib.hid (by rw [HRO.out]; rfl)
            cases G1 with
            | false =>
              cases G2 with
              | false =>
                have FL : Hid (flipP u v (ar, ai) (br, bi) = false) := Lib.hid (by rw [HRF.out ON.out]; rfl)
                clear HRF HRO HY HGH HGH2
                go_wp2_with fail
                refine (hbt1 _).mono ?_
                rintro e w_ ⟨rfl, rfl⟩
                go_wp2_with fail
                refine (hbt2 _).mono ?_
                rintro e w_ ⟨rfl, rfl⟩
                go_wp2
                go_roundw
                case rel => exact ⟨k + 1, cnt, by omega, by omega, by go_num, by go_num, Lib.hid (by rw [HA1.out, HA.out, ON.out]; rfl), Lib.hid (by rw [HO1.out, HO.out, FL.out, Bool.xor_false]), RZ, HB2.out⟩
                case measure => simp [intOf]; omega
              | true =>
                obtain rfl := HGH.out rfl rfl
                cases P1 with
                | false =>
                  have hH2f : H2 = false := by rw [← hH2]; simp at hH1 ⊢; omega
                  subst hH2f
                  have FL : Hid (flipP u v (ar, ai) (br, bi) = false) := Lib.hid (by rw [HRF.out ON.out]; rfl)
                  clear HRF HRO HY HGH HGH2
                  go_wp2_with fail
                  refine (hbt1 _).mono ?_
                  rintro e w_ ⟨rfl, rfl⟩
                  go_wp2_with fail
                  refine (hbt2 _).mono ?_
                  rintro e w_ ⟨rfl, rfl⟩
                  go_wp2
                  go_roundw
                  case rel => exact ⟨k + 1, cnt, by omega, by omega, by go_num, by go_num, Lib.hid (by rw [HA1.out, HA.out, ON.out]; rfl), Lib.hid (by rw [HO1.out, HO.out, FL.out, Bool.xor_false]), RZ, HB2.out⟩
                  case measure => simp [intOf]; omega
                | true =>
                  have FL : Hid (flipP u v (ar, ai) (br, bi) = true) := Lib.hid (by rw [HRF.out ON.out]; rfl)
                  clear HRF HRO HY HGH HGH2
                  go_wp2_with fail
                  refine (hbt1 _).mono ?_
                  rintro e w_ ⟨rfl, rfl⟩
                  go_wp2_with fail
                  refine (hbt2 _).mono ?_
                  rintro e w_ ⟨rfl, rfl⟩
                  go_wp2
                  go_roundw
                  case rel => exact ⟨k + 1, cnt + 1, by omega, by omega, by go_num, by go_num, Lib.hid (by rw [HA1.out, HA.out, ON.out]; rfl), Lib.hid (by rw [HO1.out, HO.out, FL.out]; exact par_flip cnt), RZ, HB2.out⟩
                  case measure => simp [intOf]; omega
            | true =>
              cases G2 with
              | false =>
                obtain ⟨rfl, rfl⟩ := HGH2.out rfl rfl
                cases P2 with
                | false =>
                  have FL : Hid (flipP u v (ar, ai) (br, bi) = false) := Lib.hid (by rw [HRF.out ON.out]; rfl)
                  clear HRF HRO HY HGH HGH2
                  go_wp2_with fail
                  refine (hbt1 _).mono ?_
                  rintro e w_ ⟨rfl, rfl⟩
                  go_wp2_with fail
                  refine (hbt2 _).mono ?_
                  rintro e w_ ⟨rfl, rfl⟩
                  go_wp2
                  go_roundw
                  case rel => exact ⟨k + 1, cnt, by omega, by omega, by go_num, by go_num, Lib.hid (by rw [HA1.out, HA.out, ON.out]; rfl), Lib.hid (by rw [HO1.out, HO.out, FL.out, Bool.xor_false]), RZ, HB2.out⟩
                  case measure => simp [intOf]; omega
                | true =>
                  have FL : Hid (flipP u v (ar, ai) (br, bi) = true) := Lib.hid (by rw [HRF.out ON.out]; rfl)
                  clear HRF HRO HY HGH HGH2
                  go_wp2_with fail
                  refine (hbt1 _).mono ?_
                  rintro e w_ ⟨rfl, rfl⟩
                  go_wp2_with fail
                  refine (hbt2 _).mono ?_
                  rintro e w_ ⟨rfl, rfl⟩
                  go_wp2
                  go_roundw
                  case rel => exact ⟨k + 1, cnt + 1, by omega, by omega, by go_num, by go_num, Lib.hid (by rw [HA1.out, HA.out, ON.out]; rfl), Lib.hid (by rw [HO1.out, HO.out, FL.out]; exact par_flip cnt), RZ, HB2.out⟩
                  case measure => simp [intOf]; omega
              | true =>
                have FL : Hid (flipP u v (ar, ai) (br, bi) = false) := Lib.hid (by rw [HRF.out ON.out]; rfl)
                clear HRF HRO HY HGH HGH2
                go_wp2_with fail
                refine (hbt1 _).mono ?_
                rintro e w_ ⟨rfl, rfl⟩
                go_wp2_with fail
                refine (hbt2 _).mono ?_
                rintro e w_ ⟨rfl, rfl⟩
                go_wp2
                go_roundw
                case rel => exact ⟨k + 1, cnt, by omega, by omega, by go_num, by go_num, Lib.hid (by rw [HA1.out, HA.out, ON.out]; rfl), Lib.hid (by rw [HO1.out, HO.out, FL.out, Bool.xor_false]), RZ, HB2.out⟩
                case measure => simp [intOf]; omega
          | true =>
            have ON := Lib.hid (HY.out (by rw [HRO.out]; rfl))
            clear HRF HRO HY HGH HGH2
            go_wp2_with fail
            refine (hbt1 _).mono ?_
            rintro e w_ ⟨rfl, rfl⟩
            go_wp2_with fail
            refine (hbt2 _).mono ?_
            rintro e w_ ⟨rfl, rfl⟩
            go_wp2
            go_ret
            exact ⟨ret_bool (by rw [ON.out]; rfl), HB2.out⟩
    · obtain rfl : n = k := by omega
      have hrem2 : (cnt : Int).tmod 2 = ((cnt % 2 : Nat) : Int) := by rw [Int.tmod_eq_emod_of_nonneg (by omega)]; omega
      have he : (((cnt % 2 : Nat) : Int) == 1) = decide (cnt % 2 = 1) := by rw [Bool.eq_iff_iff, beq_iff_eq, decide_eq_true_eq]; omega
      go_wp2
      go_ret
      exact ⟨ret_bool (by rw [HA.out, HO.out, Bool.false_or, ← he]; simp), hb⟩
end Go.Proofs.Ytbgllbjkmjlipaa
