/-
  DERIVED. GIVEN WITH THE SEED: THE CARDS: each row of YtojkaibpfdhmaaaGreatDoorRows.lean that lists a variable, with what it lists TIED to the program's text (the seventh form; the later family's looks); each row that meets fmt, with fmt's text TOLD by the authors' own Lean function (tested against real Go, not proved from fmt's source: count such statements apart). THE CARD IS WHAT COUNTS. Prove the row's statement (the work); the ties are given (YtojkaibpfdhmaaaGreatDoorTie.lean); close each card by the builder's one call (the guide's Derived/Test/ToyasCard.lean, 'card_holds'). Laid BY PROGRAM, IN A SANDBOX (cutbox-door.mjs). By AI agents, Wed Nov 11 2026. No macro, syntax, notation, axiom, sorry.
-/
import Derived.Test.YtojkaibpfdhmaaaGreatDoorRows
import GoSem.ClaimSeven
namespace Go.Proofs.YtojkaibpfdhmaaaGreatDoor
namespace Rows

/-- THE TIED CARD OF 'ailerontop.TopBusy'. -/
def topBusyCard : Claim7 := { stood := { row := topBusyRow, standIns := [], harness := (true, "6e3cb7fad44625996eb2f6cba451d72c9ab23cb0384bd1ffed8d330e8b014f98"), looks := false }, kinds := [], alts := [], laidByText := true, laidKinds := [.data, .data, .data, .pinned], laidTests := true, laidLooks := .later }
def TopBusyCardSaid : Prop := Claim7.holds Tryz.pinned (.plain (OpenSpec.ofChange topBusySpec)) topBusyCard

/-- THE SECOND FORM's CARD OF 'ailerontop.TopBusy'. -/
def topBusyUptoCard : Claim7 := { stood := { row := topBusyUptoRow, standIns := [], harness := (true, "6e3cb7fad44625996eb2f6cba451d72c9ab23cb0384bd1ffed8d330e8b014f98"), looks := false }, kinds := [], alts := [], laidByText := true, laidKinds := [.data, .data, .data, .pinned], laidTests := true, laidLooks := .later }
def TopBusyUptoCardSaid : Prop := Claim7.holds Tryz.pinned (.plain (OpenSpec.upto topBusySpec)) topBusyUptoCard
end Rows
end Go.Proofs.YtojkaibpfdhmaaaGreatDoor
