/- Contract: Fence. -/
import Derived.RangeFuncBox
import Derived.Test.YtbgllbjkmjlipaaN
namespace Go.Proofs.Ytbgllbjkmjlipaa
open Go.RowKit Go.Shelf
attribute [local go_sem] Oper.semAt_some
attribute [local go_sem] fmt64

/-- The slice of points zs, below block B. -/
def Gps (W : World) (B : Nat) (A : Option Addr) (zs : List GP) : Prop := Pts W B A zs.length (fun k => cx (gx (gat zs k)) (gy (gat zs k)))
/-- It goes up, and nought lies to its left, or down, and nought lies to its right. -/
def flipB (a b c d : Int) : Bool := (decide (0 < d) != decide (0 < b)) && (decide (0 < d) == decide (0 < a * d - b * c))
def onW (u v : Int) (x : GP × GP) : Bool := onB (x.1.1.re - u) (x.1.1.im - v) (x.2.1.re - u) (x.2.1.im - v)
def flW (u v : Int) (x : GP × GP) : Bool := flipB (x.1.1.re - u) (x.1.1.im - v) (x.2.1.re - u) (x.2.1.im - v)
def oddW (u v : Int) : List (GP × GP) → Bool
  | l => l.foldl (fun o x => o ^^ flW u v x) false
theorem oddW_snoc (u v : Int) (pre : List (GP × GP)) (x : GP × GP) : oddW u v (pre ++ [x]) = (oddW u v pre ^^ flW u v x) := by simp [oddW]
def fenceW (u v : Int) (l : List (GP × GP)) : Bool := l.any (onW u v) || oddW u v l
theorem gp_bd (p : GP) : p.1.re.natAbs < 1048576 ∧ p.1.im.natAbs < 1048576 := p.2

theorem res12 (tmps : Array Value) (w : World) (p q : Nat) (b : Bool) (e : Int) (h4 : tmps.getD 4 undef = .pointer (some ⟨p, 0, none⟩)) (h5 : tmps.getD 5 undef = .pointer (some ⟨q, 0, none⟩))
    (c4 : w.cell? ⟨p, 0, none⟩ = some (.bool b)) (c5 : w.cell? ⟨q, 0, none⟩ = some (.int .i64 e)) : (results Try.f12 tmps).run Try.prog w = .ok (.tuple #[.bool b, .int .i64 e]) w := by
  have h4' : tmps[4]?.getD undef = .pointer (some ⟨p, 0, none⟩) := by simpa using h4
  have h5' : tmps[5]?.getD undef = .pointer (some ⟨q, 0, none⟩) := by simpa using h5
  simp [results, Try.f12, go_sem, h4', h5', c4, c5]
theorem boxed_at {W : World} {B : Nat} (h : W.heap.size = B) (t : TypeId) (v : Value) : Boxed (W.alloc (.cells #[v] t)) B t v := by subst h; exact Boxed.new W t v
theorem below3a (w : World) (o1 o2 o3 : Obj) : Below w.heap.size w (((w.alloc o1).alloc o2).alloc o3) := (((Below.refl _ _).alloc (Nat.le_refl _) _).alloc (by simp) _).alloc (by simp <;> omega) _
theorem fence_few (A : Option Addr) (n cap : Nat) (hn : n < 3) (x y : Nat) (w : World) :
    Calls Try.prog 12 #[.slice A n cap, cx x y] w fun e w' => e = .returned (.tuple #[.bool false, .int .i64 1]) ∧ Below w.heap.size w w' := by
  have d1 : decide ((n : Int) < 3) = true := by simp <;> omega
  go_enter Try.func12, Try.ntmps12
  go_wp2
  exact bodyPost_ret (res12 _ _ (w.heap.size + 1) (w.heap.size + 1 + 1) false 1 rfl rfl ((boxed_at (by simp) 4 _).alloc _).cell (boxed_at (by simp) 26 _).cell) rfl ⟨rfl, below3a _ _ _ _⟩

/-- What lies behind the first part of Fence: z, and the two results. -/
structure F3 (w : World) (x y : Nat) (W : World) : Prop where
  b0 : Boxed W w.heap.size 31 (cx x y)
  b1 : Boxed W (w.heap.size + 1) 4 (.bool false)
  b2 : Boxed W (w.heap.size + 1 + 1) 26 (.int .i64 0)
  below : Below w.heap.size w W
theorem F3.new (w : World) (x y : Nat) : F3 w x y (((w.alloc (.cells #[cx x y] 31)).alloc (.cells #[.bool false] 4)).alloc (.cells #[.int .i64 0] 26)) :=
  ⟨((boxed_at rfl 31 _).alloc _).alloc _, (boxed_at (by simp) 4 _).alloc _, boxed_at (by simp) 26 _, below3a _ _ _ _⟩
theorem F3.size {w W : World} {x y : Nat} (h : F3 w x y W) : w.heap.size + 1 + 1 + 1 ≤ W.heap.size := h.b2.lt
theorem Boxed.bel {W W' : World} {B n : Nat} {t : TypeId} {v : Value} (h : Boxed W B t v) (hb : Below n W W') (hB : B < n) : Boxed W' B t v := (hb.block B hB).trans h
theorem F3.bel {w W W' : World} {x y : Nat} (h : F3 w x y W) (hb : Below W.heap.size W W') : F3 w x y W' := by
  have hs := h.size
  exact ⟨Boxed.bel h.b0 hb (by omega), Boxed.bel h.b1 hb (by omega), Boxed.bel h.b2 hb (by omega), h.below.trans (hb.mono (by omega))⟩

set_option maxRecDepth 100000 in
set_option maxHeartbeats 1000000 in
theorem fence_bad (A : Option Addr) (n cap : Nat) (X Y : Nat → Nat) (h3 : 3 ≤ n) (hn : n ≤ 1000) (x y : Nat) (w : World) (hp : Pts w w.heap.size A n (fun k => cx (X k) (Y k))) (h : (allB X Y n && mayZ x y) = false) :
    Calls Try.prog 12 #[.slice A n cap, cx x y] w fun e w' => e = .returned (.tuple #[.bool false, .int .i64 10]) ∧ Below w.heap.size w w' := by
  have d1 : decide ((n : Int) < 3) = false := by simp <;> omega
  have f0 := F3.new w x y
  have ha := all_any A n cap X Y hn _ ((hp.below f0.below).more (by have := f0.size; omega))
  have hm := may_any x y
  generalize allB X Y n = q at ha h
  generalize mayZ x y = r at hm h
  clear hp
  have F0 := Lib.hid f0
  clear f0
  cases q with
  | false =>
    clear h
    go_enter Try.func12, Try.ntmps12
    go_wp2_with fail
    refine ha.mono ?_
    rintro e w1 ⟨rfl, hb1⟩
    have f1 := F0.out.bel hb1
    have F1 := Lib.hid f1
    have z1 := f1.b1.cell
    have z2 := f1.b1.frozen
    have z3 := f1.b2.cell
    have z4 := f1.b2.frozen
    clear f1 hb1
    go_wp2
    exact bodyPost_ret (res12 _ _ (w.heap.size + 1) (w.heap.size + 1 + 1) false 10 rfl rfl ((F1.out.b1.set _).kept (grownBy_setCell' _ _ _) (by simp)).cell ((F1.out.b2.kept (grownBy_setCell' _ _ _) (by simp)).set _).cell) rfl ⟨rfl, (F1.out.below.setCell (by simp) _).setCell (by simp <;> omega) _⟩
  | true =>
    obtain rfl : r = false := by simpa using h
    clear h
    go_enter Try.func12, Try.ntmps12
    go_wp2_with fail
    refine ha.mono ?_
    rintro e w1 ⟨rfl, hb1⟩
    have f1 := F0.out.bel hb1
    have F1 := Lib.hid f1
    have z0 := f1.b0.cell
    clear f1 hb1
    go_wp2_with fail
    refine (hm _).mono ?_
    rintro e w2 ⟨rfl, hb2⟩
    have f2 := F1.out.bel hb2
    have F2 := Lib.hid f2
    have z1 := f2.b1.cell
    have z2 := f2.b1.frozen
    have z3 := f2.b2.cell
    have z4 := f2.b2.frozen
    clear f2 hb2
    go_wp2
    exact bodyPost_ret (res12 _ _ (w.heap.size + 1) (w.heap.size + 1 + 1) false 10 rfl rfl ((F2.out.b1.set _).kept (grownBy_setCell' _ _ _) (by simp)).cell ((F2.out.b2.kept (grownBy_setCell' _ _ _) (by simp)).set _).cell) rfl ⟨rfl, (F2.out.below.setCell (by simp) _).setCell (by simp <;> omega) _⟩
end Go.Proofs.Ytbgllbjkmjlipaa
