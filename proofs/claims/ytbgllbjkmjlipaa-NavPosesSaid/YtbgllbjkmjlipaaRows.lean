/-
  No cell of these rows narrows 'for every input' (looked for: loops, veiled, ifaces, maps, wideKeys, modest, calm, conditions, laid).
  DERIVED. THE GIVEN ROWS OF THIS SEAT. 8 by the template 'for every input the law returns true; each argument reads behind the call as it read before'; 0 by the template 'total and deterministic' (their statements: YtbgllbjkmjlipaaTotals.lean).
  GIVEN WITH THE SEED: the statements are not yours to turn. If you find one false, say at which input.
  Laid BY PROGRAM, IN A SANDBOX (cutbox-rows.mjs): the forced cells as the released guide's own fill.sh prints them over the translation 0136b24bc89ad21b… (all of the seat's roots in one cut). By AI agents, Wed Nov 11 2026. No macro, syntax, notation, axiom, sorry.
-/
import Derived.Test.YtbgllbjkmjlipaaChecked
import GoSem.Claim
import GoSem.ClaimJoined
import GoSem.ClaimMapViews
import Derived.JoinedTies
import Derived.KernelRfl
namespace Go.Proofs.Ytbgllbjkmjlipaa
/- THE CELL 'sum', in the pinned program and in every row, IS THE sha256 OF THE DUMP (.gsa) THAT YtbgllbjkmjlipaaProg.lean LOADS. Nothing in Lean hashes anything: it is a label: what it is worth is what the hold of that sum in a sandbox is worth. -/
noncomputable def Try.pinned : Pinned := { name := "ytbgllbjkmjlipaa", sum := "0136b24bc89ad21b52262761151543899b17953ede383dd7081faf0329151b8e", checked := Try.checked }
namespace Rows
def none {H : Type} : Left H := { results := [], args := [] }

/-- 'aileronlaw22.NavFences': WHATEVER THE INPUT: true; the input reads as it did. -/
def navFencesSpec : ChangeSpec := { name := "navFences", fn := fun _ => fun
  | [d1, d2] => { results := [.lit (.bool true)], args := [d1, d2] }
  | _ => none }
def navFencesRow : OpenClaim := { program := "ytbgllbjkmjlipaa", sum := "0136b24bc89ad21b52262761151543899b17953ede383dd7081faf0329151b8e", func := "aileron/aileronlaw22.NavFences", spec := "navFences", inPlace := ["math.archTrunc", "math.Float64bits", "math.Float64frombits"], unfollowed := true, recurses := true, apart := false }
def NavFencesSaid : Prop := navFencesRow.holds Try.pinned (OpenSpec.ofChange navFencesSpec)

/-- ITS FALSE NEIGHBOUR: 'it returns false'. Refute it at one input. -/
def navFencesWrong : ChangeSpec := { name := "navFences", fn := fun _ => fun
  | [d1, d2] => { results := [.lit (.bool false)], args := [d1, d2] }
  | _ => none }
def NavFencesWrongFalsely : Prop := navFencesRow.holds Try.pinned (OpenSpec.ofChange navFencesWrong)

/-- 'aileronlaw22.NavViews': WHATEVER THE INPUT: true; the input reads as it did. -/
def navViewsSpec : ChangeSpec := { name := "navViews", fn := fun _ => fun
  | [d1, d2] => { results := [.lit (.bool true)], args := [d1, d2] }
  | _ => none }
def navViewsRow : OpenClaim := { program := "ytbgllbjkmjlipaa", sum := "0136b24bc89ad21b52262761151543899b17953ede383dd7081faf0329151b8e", func := "aileron/aileronlaw22.NavViews", spec := "navViews", inPlace := ["math.archTrunc", "math.Float64bits", "math.Float64frombits"], unfollowed := true, recurses := true, apart := false }
def NavViewsSaid : Prop := navViewsRow.holds Try.pinned (OpenSpec.ofChange navViewsSpec)

/-- ITS FALSE NEIGHBOUR: 'it returns false'. Refute it at one input. -/
def navViewsWrong : ChangeSpec := { name := "navViews", fn := fun _ => fun
  | [d1, d2] => { results := [.lit (.bool false)], args := [d1, d2] }
  | _ => none }
def NavViewsWrongFalsely : Prop := navViewsRow.holds Try.pinned (OpenSpec.ofChange navViewsWrong)

/-- 'aileronlaw22.NavBacks': WHATEVER THE INPUT: true; the input reads as it did. -/
def navBacksSpec : ChangeSpec := { name := "navBacks", fn := fun _ => fun
  | [d1, d2] => { results := [.lit (.bool true)], args := [d1, d2] }
  | _ => none }
def navBacksRow : OpenClaim := { program := "ytbgllbjkmjlipaa", sum := "0136b24bc89ad21b52262761151543899b17953ede383dd7081faf0329151b8e", func := "aileron/aileronlaw22.NavBacks", spec := "navBacks", inPlace := ["math.archTrunc", "math.Float64bits", "math.Float64frombits"], unfollowed := true, recurses := true, apart := false }
def NavBacksSaid : Prop := navBacksRow.holds Try.pinned (OpenSpec.ofChange navBacksSpec)

/-- ITS FALSE NEIGHBOUR: 'it returns false'. Refute it at one input. -/
def navBacksWrong : ChangeSpec := { name := "navBacks", fn := fun _ => fun
  | [d1, d2] => { results := [.lit (.bool false)], args := [d1, d2] }
  | _ => none }
def NavBacksWrongFalsely : Prop := navBacksRow.holds Try.pinned (OpenSpec.ofChange navBacksWrong)

/-- 'aileronlaw22.NavTurns': WHATEVER THE INPUT: true; the input reads as it did. -/
def navTurnsSpec : ChangeSpec := { name := "navTurns", fn := fun _ => fun
  | [d1, d2, d3] => { results := [.lit (.bool true)], args := [d1, d2, d3] }
  | _ => none }
def navTurnsRow : OpenClaim := { program := "ytbgllbjkmjlipaa", sum := "0136b24bc89ad21b52262761151543899b17953ede383dd7081faf0329151b8e", func := "aileron/aileronlaw22.NavTurns", spec := "navTurns", inPlace := ["math.archTrunc", "math.Float64bits", "math.Float64frombits"], unfollowed := true, recurses := true, apart := false }
def NavTurnsSaid : Prop := navTurnsRow.holds Try.pinned (OpenSpec.ofChange navTurnsSpec)

/-- ITS FALSE NEIGHBOUR: 'it returns false'. Refute it at one input. -/
def navTurnsWrong : ChangeSpec := { name := "navTurns", fn := fun _ => fun
  | [d1, d2, d3] => { results := [.lit (.bool false)], args := [d1, d2, d3] }
  | _ => none }
def NavTurnsWrongFalsely : Prop := navTurnsRow.holds Try.pinned (OpenSpec.ofChange navTurnsWrong)

/-- 'aileronlaw22.NavMoves': WHATEVER THE INPUT: true; the input reads as it did. -/
def navMovesSpec : ChangeSpec := { name := "navMoves", fn := fun _ => fun
  | [d1, d2] => { results := [.lit (.bool true)], args := [d1, d2] }
  | _ => none }
def navMovesRow : OpenClaim := { program := "ytbgllbjkmjlipaa", sum := "0136b24bc89ad21b52262761151543899b17953ede383dd7081faf0329151b8e", func := "aileron/aileronlaw22.NavMoves", spec := "navMoves", inPlace := ["math.archTrunc", "math.Float64bits", "math.Float64frombits"], unfollowed := true, recurses := true, apart := false }
def NavMovesSaid : Prop := navMovesRow.holds Try.pinned (OpenSpec.ofChange navMovesSpec)

/-- ITS FALSE NEIGHBOUR: 'it returns false'. Refute it at one input. -/
def navMovesWrong : ChangeSpec := { name := "navMoves", fn := fun _ => fun
  | [d1, d2] => { results := [.lit (.bool false)], args := [d1, d2] }
  | _ => none }
def NavMovesWrongFalsely : Prop := navMovesRow.holds Try.pinned (OpenSpec.ofChange navMovesWrong)

/-- 'aileronlaw22.NavFollows': WHATEVER THE INPUT: true; the input reads as it did. -/
def navFollowsSpec : ChangeSpec := { name := "navFollows", fn := fun _ => fun
  | [d1, d2] => { results := [.lit (.bool true)], args := [d1, d2] }
  | _ => none }
def navFollowsRow : OpenClaim := { program := "ytbgllbjkmjlipaa", sum := "0136b24bc89ad21b52262761151543899b17953ede383dd7081faf0329151b8e", func := "aileron/aileronlaw22.NavFollows", spec := "navFollows", inPlace := ["math.archTrunc", "math.Float64bits", "math.Float64frombits"], unfollowed := true, recurses := true, apart := false }
def NavFollowsSaid : Prop := navFollowsRow.holds Try.pinned (OpenSpec.ofChange navFollowsSpec)

/-- ITS FALSE NEIGHBOUR: 'it returns false'. Refute it at one input. -/
def navFollowsWrong : ChangeSpec := { name := "navFollows", fn := fun _ => fun
  | [d1, d2] => { results := [.lit (.bool false)], args := [d1, d2] }
  | _ => none }
def NavFollowsWrongFalsely : Prop := navFollowsRow.holds Try.pinned (OpenSpec.ofChange navFollowsWrong)

/-- 'aileronlaw22.NavNears': WHATEVER THE INPUT: true; the input reads as it did. -/
def navNearsSpec : ChangeSpec := { name := "navNears", fn := fun _ => fun
  | [d1, d2, d3] => { results := [.lit (.bool true)], args := [d1, d2, d3] }
  | _ => none }
def navNearsRow : OpenClaim := { program := "ytbgllbjkmjlipaa", sum := "0136b24bc89ad21b52262761151543899b17953ede383dd7081faf0329151b8e", func := "aileron/aileronlaw22.NavNears", spec := "navNears", inPlace := ["math.archTrunc", "math.Float64bits", "math.Float64frombits"], unfollowed := true, recurses := true, apart := false }
def NavNearsSaid : Prop := navNearsRow.holds Try.pinned (OpenSpec.ofChange navNearsSpec)

/-- ITS FALSE NEIGHBOUR: 'it returns false'. Refute it at one input. -/
def navNearsWrong : ChangeSpec := { name := "navNears", fn := fun _ => fun
  | [d1, d2, d3] => { results := [.lit (.bool false)], args := [d1, d2, d3] }
  | _ => none }
def NavNearsWrongFalsely : Prop := navNearsRow.holds Try.pinned (OpenSpec.ofChange navNearsWrong)

/-- 'aileronlaw22.NavPoses': WHATEVER THE INPUT: true; the input reads as it did. -/
def navPosesSpec : ChangeSpec := { name := "navPoses", fn := fun _ => fun
  | [d1, d2] => { results := [.lit (.bool true)], args := [d1, d2] }
  | _ => none }
def navPosesRow : OpenClaim := { program := "ytbgllbjkmjlipaa", sum := "0136b24bc89ad21b52262761151543899b17953ede383dd7081faf0329151b8e", func := "aileron/aileronlaw22.NavPoses", spec := "navPoses", inPlace := ["math.archTrunc", "math.Float64bits", "math.Float64frombits"], unfollowed := true, recurses := true, apart := false }
def NavPosesSaid : Prop := navPosesRow.holds Try.pinned (OpenSpec.ofChange navPosesSpec)

/-- ITS FALSE NEIGHBOUR: 'it returns false'. Refute it at one input. -/
def navPosesWrong : ChangeSpec := { name := "navPoses", fn := fun _ => fun
  | [d1, d2] => { results := [.lit (.bool false)], args := [d1, d2] }
  | _ => none }
def NavPosesWrongFalsely : Prop := navPosesRow.holds Try.pinned (OpenSpec.ofChange navPosesWrong)

/- THE SECOND FORM. 'bulk': how many values and letters a reading holds, each counted each time it is reached (what is shared counts as often as it is met; a slice's spare places count too). A statement '..UptoSaid' is the law's where the arguments, and the package variables that the reading takes, are together of bulk at most 1048576: NARROWER than '..Said'. Prove '..Said' where nothing that the law and all that it calls make is longer than what came in: it says more and counts as full. Else prove '..UptoSaid'. A law counts once. -/
mutual
def uptoBulk {H : Type} : DataW H → Nat
  | .lit (.string bytes) => bytes.length + 1
  | .lit _ => 1
  | .nil => 1
  | .ptr d => uptoBulk d + 1
  | .slice elems spare => uptoBulkAll elems + uptoBulkAll spare + 1
  | .agg parts => uptoBulkAll parts + 1
  | .iface _ d => uptoBulk d + 1
  | .map entries => uptoBulkEntries entries + 1
  | .held _ => 1
def uptoBulkAll {H : Type} : List (DataW H) → Nat
  | [] => 0
  | d :: r => uptoBulk d + uptoBulkAll r
def uptoBulkEntries {H : Type} : List (Lit × DataW H) → Nat
  | [] => 0
  | x :: r => uptoBulkEntry x + uptoBulkEntries r
def uptoBulkEntry {H : Type} : Lit × DataW H → Nat
  | (.string bytes, d) => bytes.length + uptoBulk d + 1
  | (_, d) => uptoBulk d + 1
 end
def uptoSmall : (H : Type) → List (DataW H) → Bool := fun _ ds => decide (uptoBulkAll ds ≤ 1048576)
def OpenSpec.upto (s : _root_.Go.ChangeSpec) : _root_.Go.OpenSpec := { _root_.Go.OpenSpec.ofChange s with cond := some uptoSmall }

/-- 'aileronlaw22.NavFences', WHERE WHAT IT READS IS OF BULK AT MOST 1048576: true; the input reads as it did. -/
def navFencesUptoRow : OpenClaim := { program := "ytbgllbjkmjlipaa", sum := "0136b24bc89ad21b52262761151543899b17953ede383dd7081faf0329151b8e", func := "aileron/aileronlaw22.NavFences", spec := "navFences", inPlace := ["math.archTrunc", "math.Float64bits", "math.Float64frombits"], unfollowed := true, recurses := true, apart := false, narrowed := true }
def NavFencesUptoSaid : Prop := navFencesUptoRow.holds Try.pinned (OpenSpec.upto navFencesSpec)

/-- 'aileronlaw22.NavViews', WHERE WHAT IT READS IS OF BULK AT MOST 1048576: true; the input reads as it did. -/
def navViewsUptoRow : OpenClaim := { program := "ytbgllbjkmjlipaa", sum := "0136b24bc89ad21b52262761151543899b17953ede383dd7081faf0329151b8e", func := "aileron/aileronlaw22.NavViews", spec := "navViews", inPlace := ["math.archTrunc", "math.Float64bits", "math.Float64frombits"], unfollowed := true, recurses := true, apart := false, narrowed := true }
def NavViewsUptoSaid : Prop := navViewsUptoRow.holds Try.pinned (OpenSpec.upto navViewsSpec)

/-- 'aileronlaw22.NavBacks', WHERE WHAT IT READS IS OF BULK AT MOST 1048576: true; the input reads as it did. -/
def navBacksUptoRow : OpenClaim := { program := "ytbgllbjkmjlipaa", sum := "0136b24bc89ad21b52262761151543899b17953ede383dd7081faf0329151b8e", func := "aileron/aileronlaw22.NavBacks", spec := "navBacks", inPlace := ["math.archTrunc", "math.Float64bits", "math.Float64frombits"], unfollowed := true, recurses := true, apart := false, narrowed := true }
def NavBacksUptoSaid : Prop := navBacksUptoRow.holds Try.pinned (OpenSpec.upto navBacksSpec)

/-- 'aileronlaw22.NavTurns', WHERE WHAT IT READS IS OF BULK AT MOST 1048576: true; the input reads as it did. -/
def navTurnsUptoRow : OpenClaim := { program := "ytbgllbjkmjlipaa", sum := "0136b24bc89ad21b52262761151543899b17953ede383dd7081faf0329151b8e", func := "aileron/aileronlaw22.NavTurns", spec := "navTurns", inPlace := ["math.archTrunc", "math.Float64bits", "math.Float64frombits"], unfollowed := true, recurses := true, apart := false, narrowed := true }
def NavTurnsUptoSaid : Prop := navTurnsUptoRow.holds Try.pinned (OpenSpec.upto navTurnsSpec)

/-- 'aileronlaw22.NavMoves', WHERE WHAT IT READS IS OF BULK AT MOST 1048576: true; the input reads as it did. -/
def navMovesUptoRow : OpenClaim := { program := "ytbgllbjkmjlipaa", sum := "0136b24bc89ad21b52262761151543899b17953ede383dd7081faf0329151b8e", func := "aileron/aileronlaw22.NavMoves", spec := "navMoves", inPlace := ["math.archTrunc", "math.Float64bits", "math.Float64frombits"], unfollowed := true, recurses := true, apart := false, narrowed := true }
def NavMovesUptoSaid : Prop := navMovesUptoRow.holds Try.pinned (OpenSpec.upto navMovesSpec)

/-- 'aileronlaw22.NavFollows', WHERE WHAT IT READS IS OF BULK AT MOST 1048576: true; the input reads as it did. -/
def navFollowsUptoRow : OpenClaim := { program := "ytbgllbjkmjlipaa", sum := "0136b24bc89ad21b52262761151543899b17953ede383dd7081faf0329151b8e", func := "aileron/aileronlaw22.NavFollows", spec := "navFollows", inPlace := ["math.archTrunc", "math.Float64bits", "math.Float64frombits"], unfollowed := true, recurses := true, apart := false, narrowed := true }
def NavFollowsUptoSaid : Prop := navFollowsUptoRow.holds Try.pinned (OpenSpec.upto navFollowsSpec)

/-- 'aileronlaw22.NavNears', WHERE WHAT IT READS IS OF BULK AT MOST 1048576: true; the input reads as it did. -/
def navNearsUptoRow : OpenClaim := { program := "ytbgllbjkmjlipaa", sum := "0136b24bc89ad21b52262761151543899b17953ede383dd7081faf0329151b8e", func := "aileron/aileronlaw22.NavNears", spec := "navNears", inPlace := ["math.archTrunc", "math.Float64bits", "math.Float64frombits"], unfollowed := true, recurses := true, apart := false, narrowed := true }
def NavNearsUptoSaid : Prop := navNearsUptoRow.holds Try.pinned (OpenSpec.upto navNearsSpec)

/-- 'aileronlaw22.NavPoses', WHERE WHAT IT READS IS OF BULK AT MOST 1048576: true; the input reads as it did. -/
def navPosesUptoRow : OpenClaim := { program := "ytbgllbjkmjlipaa", sum := "0136b24bc89ad21b52262761151543899b17953ede383dd7081faf0329151b8e", func := "aileron/aileronlaw22.NavPoses", spec := "navPoses", inPlace := ["math.archTrunc", "math.Float64bits", "math.Float64frombits"], unfollowed := true, recurses := true, apart := false, narrowed := true }
def NavPosesUptoSaid : Prop := navPosesUptoRow.holds Try.pinned (OpenSpec.upto navPosesSpec)

end Rows
end Go.Proofs.Ytbgllbjkmjlipaa
