/- The document's Fence and nav's are one; Fence of what points hands over. -/
import Derived.Test.YtbgllbjkmjlipaaW6
namespace Go.Proofs.Ytbgllbjkmjlipaa
open Go.RowKit Go.Shelf
attribute [local go_sem] fmt64

def orK (F : Nat → Bool) : Nat → Bool
  | 0 => false
  | k + 1 => orK F k || F k
def xrK (F : Nat → Bool) : Nat → Bool
  | 0 => false
  | k + 1 => xrK F k ^^ F k
theorem orK_congr {F G : Nat → Bool} {n : Nat} (h : ∀ k, k < n → F k = G k) : orK F n = orK G n := by
  induction n with
  | zero => rfl
  | succ m ih => rw [orK, orK, ih (fun k hk => h k (by omega)), h m (by omega)]
theorem xrK_congr {F G : Nat → Bool} {n : Nat} (h : ∀ k, k < n → F k = G k) : xrK F n = xrK G n := by
  induction n with
  | zero => rfl
  | succ m ih => rw [xrK, xrK, ih (fun k hk => h k (by omega)), h m (by omega)]
theorem orK_shift (F : Nat → Bool) (m : Nat) : orK F (m + 1) = (orK (fun k => F (k + 1)) m || F 0) := by
  induction m with
  | zero => rfl
  | succ m ih => rw [orK, ih, orK]; cases orK (fun k => F (k + 1)) m <;> cases F 0 <;> cases F (m + 1) <;> rfl
theorem xrK_shift (F : Nat → Bool) (m : Nat) : xrK F (m + 1) = (xrK (fun k => F (k + 1)) m ^^ F 0) := by
  induction m with
  | zero => rfl
  | succ m ih => rw [xrK, ih, xrK]; cases xrK (fun k => F (k + 1)) m <;> cases F 0 <;> cases F (m + 1) <;> rfl
theorem any_orK (u v : Int) (f g : Nat → Int × Int) (n : Nat) : anyK u v f g n = orK (fun k => onP u v (f k) (g k)) n := by
  induction n with
  | zero => rfl
  | succ m ih => rw [anyK, orK, ih]
theorem odd_xrK (u v : Int) (f g : Nat → Int × Int) (n : Nat) : oddK u v f g n = xrK (fun k => flipP u v (f k) (g k)) n := by
  induction n with
  | zero => rfl
  | succ m ih => rw [oddK, xrK, ih]
theorem upto_any {α : Type} (w : Nat → α) (p : α → Bool) (n : Nat) : (upto w n).any p = orK (fun k => p (w k)) n := by
  induction n with
  | zero => rfl
  | succ m ih => rw [upto_succ, List.any_append, ih, orK]; simp
theorem upto_odd (u v : Int) (w : Nat → GP × GP) (n : Nat) : oddW u v (upto w n) = xrK (fun k => flW u v (w k)) n := by
  induction n with
  | zero => rfl
  | succ m ih => rw [upto_succ, oddW_snoc, ih, xrK]
/-- The points are f's. -/
def Are (zs : List GP) (n : Nat) (f : Nat → Int × Int) : Prop := zs.length = n ∧ ∀ k, k < n → (gat zs k).1.re = (f k).1 ∧ (gat zs k).1.im = (f k).2
theorem fence_same {zs : List GP} {m : Nat} {f : Nat → Int × Int} (h : Are zs (m + 1) f) (u v : Int) :
    fenceW u v (upto (way zs) (m + 1)) = (anyK u v f (fun k => f (nxt (m + 1) k)) (m + 1) || oddK u v f (fun k => f (nxt (m + 1) k)) (m + 1)) := by
  have hp : ∀ j k, j < m + 1 → k < m + 1 → onW u v (gat zs j, gat zs k) = onP u v (f j) (f k) ∧ flW u v (gat zs j, gat zs k) = flipP u v (f j) (f k) := fun j k hj hk => by
    obtain ⟨a1, a2⟩ := h.2 j hj
    obtain ⟨b1, b2⟩ := h.2 k hk
    unfold onW flW onP flipP
    rw [a1, a2, b1, b2]
    exact ⟨rfl, rfl⟩
  have hw : ∀ k, k < m → way zs (k + 1) = (gat zs k, gat zs (k + 1)) := fun k _ => by simp [way]
  have hw0 : way zs 0 = (gat zs m, gat zs 0) := by simp [way, h.1]
  have hn : ∀ k, k < m → nxt (m + 1) k = k + 1 := fun k hk => Nat.mod_eq_of_lt (by omega)
  have hnm : nxt (m + 1) m = 0 := Nat.mod_self _
  unfold fenceW
  rw [upto_any, upto_odd, any_orK, odd_xrK, orK_shift, xrK_shift, orK, xrK]
  rw [orK_congr (G := fun k => onP u v (f k) (f (nxt (m + 1) k))) (fun k hk => by rw [hw k hk, hn k hk]; exact (hp k (k + 1) (by omega) (by omega)).1),
    xrK_congr (G := fun k => flipP u v (f k) (f (nxt (m + 1) k))) (fun k hk => by rw [hw k hk, hn k hk]; exact (hp k (k + 1) (by omega) (by omega)).2),
    hw0, hnm, (hp m 0 (by omega) (by omega)).1, (hp m 0 (by omega) (by omega)).2]

def gpz (p : Int × Int) : GP := if h : p.1.natAbs < 1048576 ∧ p.2.natAbs < 1048576 then ⟨⟨false, p.1, false, p.2⟩, h⟩ else gp0
theorem gpz_at {p : Int × Int} (h : p.1.natAbs < 1048576 ∧ p.2.natAbs < 1048576) : gpz p = ⟨⟨false, p.1, false, p.2⟩, h⟩ := dif_pos h
def gps (n : Nat) (f : Nat → Int × Int) : List GP := (List.range n).map fun k => gpz (f k)
theorem gps_at {n k : Nat} (f : Nat → Int × Int) (h : k < n) : gat (gps n f) k = gpz (f k) := by simp [gat, gps, h]
theorem gps_len (n : Nat) (f : Nat → Int × Int) : (gps n f).length = n := by simp [gps]
theorem gps_are {n : Nat} {f : Nat → Int × Int} (h : ∀ k, k < n → (f k).1.natAbs < 1048576 ∧ (f k).2.natAbs < 1048576) : Are (gps n f) n f :=
  ⟨gps_len n f, fun k hk => by rw [gps_at f hk, gpz_at (h k hk)]; exact ⟨rfl, rfl⟩⟩

theorem own_cells {W : World} {base size n : Nat} {e : TypeId} {v : Value} {xs : List Value} (h : W.ownsRow base e size v n xs) (hn : 1 ≤ n) :
    ∃ g cap, v = .slice (some ⟨g, 0, none⟩) n cap ∧ base ≤ g ∧ g < W.heap.size ∧ ∀ j u, xs[j]? = some u → W.cell? ⟨g, j, none⟩ = some u := by
  rcases h.2 with ⟨_, h0⟩ | ⟨g, cap, cur, rfl, hb, hh, hc, _, hs, ht⟩
  · omega
  · refine ⟨g, cap, rfl, hb, (Array.getElem?_eq_some_iff.1 hh).1, fun j u hu => ?_⟩
    rw [cell_of_row W g j cur e (0, 0) hh]
    rw [← ht, List.getElem?_take] at hu
    split at hu
    · simpa using hu
    · cases hu
theorem own_slice {W : World} {base size n : Nat} {e : TypeId} {v : Value} {xs : List Value} (h : W.ownsRow base e size v n xs) : ∃ A cap, v = .slice A n cap := by
  rcases h.2 with ⟨rfl, rfl⟩ | ⟨g, cap, cur, rfl, _⟩
  · exact ⟨_, _, rfl⟩
  · exact ⟨_, _, rfl⟩

def fzs (ns : List N3) (k : Nat) : Int × Int := plz (nat_ ns k)
def fenR (ns : List N3) (n : Nat) (u v : Int) : Bool := anyK u v (fzs ns) (fun k => fzs ns (nxt n k)) n || oddK u v (fzs ns) (fun k => fzs ns (nxt n k)) n
def feE (n : Nat) (al : Bool) : Int := if n < 3 then 1 else if al = true then 0 else 10
def feR (n : Nat) (al F : Bool) : Bool := if n < 3 then false else if al = true then F else false

theorem all_num {xs : List (Nat × Nat)} {ns : List N3} {n : Nat} (h : ∀ k, k < n → NumAt xs ns k) : allB (fun k => (pat xs k).1) (fun k => (pat xs k).2) n = rAll ns n := by
  induction n with
  | zero => rfl
  | succ m ih => rw [allB, rAll, ih (fun k hk => h k (by omega)), num_may (h m (by omega))]
theorem fence_gen {W : World} {base n : Nat} {v : Value} {xs : List (Nat × Nat)} {ns : List N3} {x y : Nat} {a b : Int} (hn : n ≤ 100) (hxl : xs.length = n) (hx : ∀ k, k < n → NumAt xs ns k) (hr : W.ownsRow base 31 1 v n (xs.map cxv)) (hz : Num x y a b) :
    Calls Try.prog 12 #[v, cx x y] W fun e w' => e = .returned (.tuple #[.bool (feR n (rAll ns n && rightB a b) (fenR ns n a b)), .int .i64 (feE n (rAll ns n && rightB a b))]) ∧ Below W.heap.size W w' := by
  by_cases h3 : n < 3
  · obtain ⟨A, cap, rfl⟩ := own_slice hr
    rw [show feR n (rAll ns n && rightB a b) (fenR ns n a b) = false from if_pos h3, show feE n (rAll ns n && rightB a b) = 1 from if_pos h3]
    exact fence_few A n cap h3 x y W
  · obtain ⟨g, cap, rfl, _, hg, hc⟩ := own_cells hr (by omega)
    have hpt : ∀ k, k < n → W.cell? ⟨g, 0 + k, none⟩ = some (cx (pat xs k).1 (pat xs k).2) := fun k hk => by
      rw [Nat.zero_add]
      refine hc k _ ?_
      rw [List.getElem?_map, List.getElem?_eq_getElem (by omega)]
      simp [pat, cxv, List.getElem?_eq_getElem (show k < xs.length by omega)]
    cases ha : (rAll ns n && rightB a b) with
    | false =>
      rw [show feR n false (fenR ns n a b) = false by unfold feR; rw [if_neg h3]; rfl, show feE n false = 10 by unfold feE; rw [if_neg h3]; rfl]
      refine fence_bad (some ⟨g, 0, none⟩) n cap (fun k => (pat xs k).1) (fun k => (pat xs k).2) (by omega) (by omega) x y W (fun k hk => ⟨g, 0, rfl, hg, hpt k hk⟩) ?_
      rw [all_num hx, num_may hz]; exact ha
    | true =>
      rw [Bool.and_eq_true] at ha
      rw [show feR n true (fenR ns n a b) = fenR ns n a b by unfold feR; rw [if_neg h3]; rfl, show feE n true = 0 by unfold feE; rw [if_neg h3]; rfl]
      obtain ⟨rfl, rfl⟩ := num_right hz ha.2
      have hbd := right_bd ha.2
      have hfb : ∀ k, k < n → (fzs ns k).1.natAbs < 1048576 ∧ (fzs ns k).2.natAbs < 1048576 := fun k hk => right_bd (rAll_at ha.1 hk)
      obtain ⟨m, rfl⟩ : ∃ m, n = m + 1 := ⟨n - 1, by omega⟩
      have hare := gps_are hfb
      have h := callsIn_wide.1 (fence_in g 0 m cap (gps (m + 1) (fzs ns)) (gps_len _ _) (by omega) (by omega) ⟨⟨false, a, false, b⟩, hbd⟩ W (fun k hk => ⟨g, 0, rfl, hg, by
        rw [gps_len] at hk
        rw [hpt k hk]
        show some (cx (pat xs k).1 (pat xs k).2) = some (cx (gx (gat (gps (m + 1) (fzs ns)) k)) (gy (gat (gps (m + 1) (fzs ns)) k)))
        rw [gps_at (fzs ns) hk, gpz_at (hfb k hk)]
        obtain ⟨e1, e2⟩ := num_right (hx k hk) (rAll_at ha.1 hk)
        rw [e1, e2]
        rfl⟩))
      rw [fence_same hare] at h
      exact h
theorem zcells_at (ns : List N3) (n k : Nat) (hk : k < n) : (zcells (plzs ns n))[k * 2]? = some (.int .i64 (fzs ns k).1) ∧ (zcells (plzs ns n))[k * 2 + 1]? = some (.int .i64 (fzs ns k).2) := by
  have hl : ∀ m, (zcells (plzs ns m)).length = m * 2 := fun m => by
    induction m with
    | zero => rfl
    | succ m ih => rw [plzs_succ, zcells_snoc, List.length_append, ih]; simp; omega
  induction n with
  | zero => omega
  | succ m ih =>
    rw [plzs_succ, zcells_snoc]
    by_cases c : k < m
    · rw [List.getElem?_append_left (by rw [hl]; omega), List.getElem?_append_left (by rw [hl]; omega)]
      exact ih c
    · obtain rfl : k = m := by omega
      rw [List.getElem?_append_right (by rw [hl]; omega), List.getElem?_append_right (by rw [hl]; omega), hl]
      refine ⟨?_, ?_⟩
      · rw [Nat.sub_self]; rfl
      · rw [show k * 2 + 1 - k * 2 = 1 by omega]; rfl
theorem rfence_gen {W : World} {base n : Nat} {v : Value} {ns : List N3} {a b : Int} (h3 : 3 ≤ n) (hn : n ≤ 100) (hr : W.ownsRow base 39 2 v n (zcells (plzs ns n))) (ha : rAll ns n = true) (hb : rightB a b = true) :
    Calls Try.prog 17 #[v, zz a b] W fun e w' => e = .returned (.bool (fenR ns n a b)) ∧ Below W.heap.size W w' := by
  obtain ⟨g, cap, rfl, _, hg, hc⟩ := own_cells hr (by omega)
  have hbd := right_bd hb
  refine rfence_any (some ⟨g, 0, none⟩) n cap (fzs ns) hn a b hbd.1 hbd.2 (fun k hk => right_bd (rAll_at ha hk)) W (fun k hk => ⟨g, 0, rfl, hg, ?_, ?_⟩)
  · rw [Nat.zero_add]; exact hc _ _ (zcells_at ns n k hk).1
  · rw [Nat.zero_add]; exact hc _ _ (zcells_at ns n k hk).2
end Go.Proofs.Ytbgllbjkmjlipaa
