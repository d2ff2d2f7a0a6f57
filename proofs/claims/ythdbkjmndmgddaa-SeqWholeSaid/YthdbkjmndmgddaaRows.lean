/-
  No cell of these rows narrows 'for every input' (looked for: loops, veiled, ifaces, maps, wideKeys, modest, calm, conditions, laid).
  DERIVED. THE GIVEN ROWS OF THIS SEAT. 6 by the template 'for every input the law returns true; each argument reads behind the call as it read before'; 0 by the template 'total and deterministic' (their statements: YthdbkjmndmgddaaTotals.lean).
  GIVEN WITH THE SEED: the statements are not yours to turn. If you find one false, say at which input.
  Laid BY PROGRAM, IN A SANDBOX (cutbox-rows.mjs): the forced cells as the released guide's own fill.sh prints them over the translation 08831db3b11ff245… (all of the seat's roots in one cut). By AI agents, Wed Nov 11 2026. No macro, syntax, notation, axiom, sorry.
-/
import Derived.Test.YthdbkjmndmgddaaChecked
import GoSem.Claim
import GoSem.ClaimJoined
import GoSem.ClaimMapViews
import Derived.JoinedTies
import Derived.KernelRfl
namespace Go.Proofs.Ythdbkjmndmgddaa
/- THE CELL 'sum', in the pinned program and in every row, IS THE sha256 OF THE DUMP (.gsa) THAT YthdbkjmndmgddaaProg.lean LOADS. Nothing in Lean hashes anything: it is a label: what it is worth is what the hold of that sum in a sandbox is worth. -/
noncomputable def Try.pinned : Pinned := { name := "ythdbkjmndmgddaa", sum := "08831db3b11ff245a653bf4e8c19ae6558c1bd4618185b8780df654bd4028b16", checked := Try.checked }
namespace Rows
def none {H : Type} : Left H := { results := [], args := [] }

/-- 'aileronlaw07.SeqKept': WHATEVER THE INPUT: true; the input reads as it did. -/
def seqKeptSpec : ChangeSpec := { name := "seqKept", fn := fun _ => fun
  | [d1, d2, d3] => { results := [.lit (.bool true)], args := [d1, d2, d3] }
  | _ => none }
def seqKeptRow : OpenClaim := { program := "ythdbkjmndmgddaa", sum := "08831db3b11ff245a653bf4e8c19ae6558c1bd4618185b8780df654bd4028b16", func := "aileron/aileronlaw07.SeqKept", spec := "seqKept", apart := false }
def SeqKeptSaid : Prop := seqKeptRow.holds Try.pinned (OpenSpec.ofChange seqKeptSpec)

/-- ITS FALSE NEIGHBOUR: 'it returns false'. Refute it at one input. -/
def seqKeptWrong : ChangeSpec := { name := "seqKept", fn := fun _ => fun
  | [d1, d2, d3] => { results := [.lit (.bool false)], args := [d1, d2, d3] }
  | _ => none }
def SeqKeptWrongFalsely : Prop := seqKeptRow.holds Try.pinned (OpenSpec.ofChange seqKeptWrong)

/-- 'aileronlaw07.SeqSome': WHATEVER THE INPUT: true; the input reads as it did. -/
def seqSomeSpec : ChangeSpec := { name := "seqSome", fn := fun _ => fun
  | [d1, d2, d3] => { results := [.lit (.bool true)], args := [d1, d2, d3] }
  | _ => none }
def seqSomeRow : OpenClaim := { program := "ythdbkjmndmgddaa", sum := "08831db3b11ff245a653bf4e8c19ae6558c1bd4618185b8780df654bd4028b16", func := "aileron/aileronlaw07.SeqSome", spec := "seqSome", apart := false }
def SeqSomeSaid : Prop := seqSomeRow.holds Try.pinned (OpenSpec.ofChange seqSomeSpec)

/-- ITS FALSE NEIGHBOUR: 'it returns false'. Refute it at one input. -/
def seqSomeWrong : ChangeSpec := { name := "seqSome", fn := fun _ => fun
  | [d1, d2, d3] => { results := [.lit (.bool false)], args := [d1, d2, d3] }
  | _ => none }
def SeqSomeWrongFalsely : Prop := seqSomeRow.holds Try.pinned (OpenSpec.ofChange seqSomeWrong)

/-- 'aileronlaw07.SeqNever': WHATEVER THE INPUT: true; the input reads as it did. -/
def seqNeverSpec : ChangeSpec := { name := "seqNever", fn := fun _ => fun
  | [d1, d2, d3] => { results := [.lit (.bool true)], args := [d1, d2, d3] }
  | _ => none }
def seqNeverRow : OpenClaim := { program := "ythdbkjmndmgddaa", sum := "08831db3b11ff245a653bf4e8c19ae6558c1bd4618185b8780df654bd4028b16", func := "aileron/aileronlaw07.SeqNever", spec := "seqNever", apart := false }
def SeqNeverSaid : Prop := seqNeverRow.holds Try.pinned (OpenSpec.ofChange seqNeverSpec)

/-- ITS FALSE NEIGHBOUR: 'it returns false'. Refute it at one input. -/
def seqNeverWrong : ChangeSpec := { name := "seqNever", fn := fun _ => fun
  | [d1, d2, d3] => { results := [.lit (.bool false)], args := [d1, d2, d3] }
  | _ => none }
def SeqNeverWrongFalsely : Prop := seqNeverRow.holds Try.pinned (OpenSpec.ofChange seqNeverWrong)

/-- 'aileronlaw07.SeqWhole': WHATEVER THE INPUT: true; the input reads as it did. -/
def seqWholeSpec : ChangeSpec := { name := "seqWhole", fn := fun _ => fun
  | [d1, d2, d3] => { results := [.lit (.bool true)], args := [d1, d2, d3] }
  | _ => none }
def seqWholeRow : OpenClaim := { program := "ythdbkjmndmgddaa", sum := "08831db3b11ff245a653bf4e8c19ae6558c1bd4618185b8780df654bd4028b16", func := "aileron/aileronlaw07.SeqWhole", spec := "seqWhole", apart := false }
def SeqWholeSaid : Prop := seqWholeRow.holds Try.pinned (OpenSpec.ofChange seqWholeSpec)

/-- ITS FALSE NEIGHBOUR: 'it returns false'. Refute it at one input. -/
def seqWholeWrong : ChangeSpec := { name := "seqWhole", fn := fun _ => fun
  | [d1, d2, d3] => { results := [.lit (.bool false)], args := [d1, d2, d3] }
  | _ => none }
def SeqWholeWrongFalsely : Prop := seqWholeRow.holds Try.pinned (OpenSpec.ofChange seqWholeWrong)

/-- 'aileronlaw07.SeqTells': WHATEVER THE INPUT: true; the input reads as it did. -/
def seqTellsSpec : ChangeSpec := { name := "seqTells", fn := fun _ => fun
  | [d1, d2] => { results := [.lit (.bool true)], args := [d1, d2] }
  | _ => none }
def seqTellsRow : OpenClaim := { program := "ythdbkjmndmgddaa", sum := "08831db3b11ff245a653bf4e8c19ae6558c1bd4618185b8780df654bd4028b16", func := "aileron/aileronlaw07.SeqTells", spec := "seqTells", apart := false }
def SeqTellsSaid : Prop := seqTellsRow.holds Try.pinned (OpenSpec.ofChange seqTellsSpec)

/-- ITS FALSE NEIGHBOUR: 'it returns false'. Refute it at one input. -/
def seqTellsWrong : ChangeSpec := { name := "seqTells", fn := fun _ => fun
  | [d1, d2] => { results := [.lit (.bool false)], args := [d1, d2] }
  | _ => none }
def SeqTellsWrongFalsely : Prop := seqTellsRow.holds Try.pinned (OpenSpec.ofChange seqTellsWrong)

/-- 'aileronlaw07.SeqTurns': WHATEVER THE INPUT: true; the input reads as it did. -/
def seqTurnsSpec : ChangeSpec := { name := "seqTurns", fn := fun _ => fun
  | [d] => { results := [.lit (.bool true)], args := [d] }
  | _ => none }
def seqTurnsRow : OpenClaim := { program := "ythdbkjmndmgddaa", sum := "08831db3b11ff245a653bf4e8c19ae6558c1bd4618185b8780df654bd4028b16", func := "aileron/aileronlaw07.SeqTurns", spec := "seqTurns", apart := false }
def SeqTurnsSaid : Prop := seqTurnsRow.holds Try.pinned (OpenSpec.ofChange seqTurnsSpec)

/-- ITS FALSE NEIGHBOUR: 'it returns false'. Refute it at one input. -/
def seqTurnsWrong : ChangeSpec := { name := "seqTurns", fn := fun _ => fun
  | [d] => { results := [.lit (.bool false)], args := [d] }
  | _ => none }
def SeqTurnsWrongFalsely : Prop := seqTurnsRow.holds Try.pinned (OpenSpec.ofChange seqTurnsWrong)

/- THE SECOND FORM. 'bulk': how many values and letters a reading holds, each counted each time it is reached (what is shared counts as often as it is met; a slice's spare places count too). A statement '..UptoSaid' is the law's where the arguments, and the package variables that the reading takes, are together of bulk at most 1048576: NARROWER than '..Said'. Prove '..Said' where nothing that the law and all that it calls make is longer than what came in: it says more and counts as full. Else prove '..UptoSaid'. A law counts once. -/
mutual
def uptoBulk {H : Type} : DataW H → Nat
  | .lit (.string bytes) => bytes.length + 1
  | .lit _ => 1
  | .nil => 1
  | .ptr d => uptoBulk d + 1
  | .slice elems spare => uptoBulkAll elems + uptoBulkAll spare + 1
  | .agg parts => uptoBulkAll parts + 1
  | .iface _ d => uptoBulk d + 1
  | .map entries => uptoBulkEntries entries + 1
  | .held _ => 1
def uptoBulkAll {H : Type} : List (DataW H) → Nat
  | [] => 0
  | d :: r => uptoBulk d + uptoBulkAll r
def uptoBulkEntries {H : Type} : List (Lit × DataW H) → Nat
  | [] => 0
  | x :: r => uptoBulkEntry x + uptoBulkEntries r
def uptoBulkEntry {H : Type} : Lit × DataW H → Nat
  | (.string bytes, d) => bytes.length + uptoBulk d + 1
  | (_, d) => uptoBulk d + 1
 end
def uptoSmall : (H : Type) → List (DataW H) → Bool := fun _ ds => decide (uptoBulkAll ds ≤ 1048576)
def OpenSpec.upto (s : _root_.Go.ChangeSpec) : _root_.Go.OpenSpec := { _root_.Go.OpenSpec.ofChange s with cond := some uptoSmall }

/-- 'aileronlaw07.SeqKept', WHERE WHAT IT READS IS OF BULK AT MOST 1048576: true; the input reads as it did. -/
def seqKeptUptoRow : OpenClaim := { program := "ythdbkjmndmgddaa", sum := "08831db3b11ff245a653bf4e8c19ae6558c1bd4618185b8780df654bd4028b16", func := "aileron/aileronlaw07.SeqKept", spec := "seqKept", apart := false, narrowed := true }
def SeqKeptUptoSaid : Prop := seqKeptUptoRow.holds Try.pinned (OpenSpec.upto seqKeptSpec)

/-- 'aileronlaw07.SeqSome', WHERE WHAT IT READS IS OF BULK AT MOST 1048576: true; the input reads as it did. -/
def seqSomeUptoRow : OpenClaim := { program := "ythdbkjmndmgddaa", sum := "08831db3b11ff245a653bf4e8c19ae6558c1bd4618185b8780df654bd4028b16", func := "aileron/aileronlaw07.SeqSome", spec := "seqSome", apart := false, narrowed := true }
def SeqSomeUptoSaid : Prop := seqSomeUptoRow.holds Try.pinned (OpenSpec.upto seqSomeSpec)

/-- 'aileronlaw07.SeqNever', WHERE WHAT IT READS IS OF BULK AT MOST 1048576: true; the input reads as it did. -/
def seqNeverUptoRow : OpenClaim := { program := "ythdbkjmndmgddaa", sum := "08831db3b11ff245a653bf4e8c19ae6558c1bd4618185b8780df654bd4028b16", func := "aileron/aileronlaw07.SeqNever", spec := "seqNever", apart := false, narrowed := true }
def SeqNeverUptoSaid : Prop := seqNeverUptoRow.holds Try.pinned (OpenSpec.upto seqNeverSpec)

/-- 'aileronlaw07.SeqWhole', WHERE WHAT IT READS IS OF BULK AT MOST 1048576: true; the input reads as it did. -/
def seqWholeUptoRow : OpenClaim := { program := "ythdbkjmndmgddaa", sum := "08831db3b11ff245a653bf4e8c19ae6558c1bd4618185b8780df654bd4028b16", func := "aileron/aileronlaw07.SeqWhole", spec := "seqWhole", apart := false, narrowed := true }
def SeqWholeUptoSaid : Prop := seqWholeUptoRow.holds Try.pinned (OpenSpec.upto seqWholeSpec)

/-- 'aileronlaw07.SeqTells', WHERE WHAT IT READS IS OF BULK AT MOST 1048576: true; the input reads as it did. -/
def seqTellsUptoRow : OpenClaim := { program := "ythdbkjmndmgddaa", sum := "08831db3b11ff245a653bf4e8c19ae6558c1bd4618185b8780df654bd4028b16", func := "aileron/aileronlaw07.SeqTells", spec := "seqTells", apart := false, narrowed := true }
def SeqTellsUptoSaid : Prop := seqTellsUptoRow.holds Try.pinned (OpenSpec.upto seqTellsSpec)

/-- 'aileronlaw07.SeqTurns', WHERE WHAT IT READS IS OF BULK AT MOST 1048576: true; the input reads as it did. -/
def seqTurnsUptoRow : OpenClaim := { program := "ythdbkjmndmgddaa", sum := "08831db3b11ff245a653bf4e8c19ae6558c1bd4618185b8780df654bd4028b16", func := "aileron/aileronlaw07.SeqTurns", spec := "seqTurns", apart := false, narrowed := true }
def SeqTurnsUptoSaid : Prop := seqTurnsUptoRow.holds Try.pinned (OpenSpec.upto seqTurnsSpec)

end Rows
end Go.Proofs.Ythdbkjmndmgddaa
