/-
  No cell of these rows narrows 'for every input' (looked for: loops, veiled, ifaces, maps, wideKeys, modest, calm, conditions, laid).
  DERIVED. THE GIVEN ROWS OF THIS SEAT. 8 by the template 'for every input the law returns true; each argument reads behind the call as it read before'; 0 by the template 'total and deterministic' (their statements: YtlchbjocemegbaaTotals.lean).
  GIVEN WITH THE SEED: the statements are not yours to turn. If you find one false, say at which input.
  Laid BY PROGRAM, IN A SANDBOX (cutbox-rows.mjs): the forced cells as the released guide's own fill.sh prints them over the translation f2f1d9295ef4dd5e… (all of the seat's roots in one cut). By AI agents, Wed Nov 11 2026. No macro, syntax, notation, axiom, sorry.
-/
import Derived.Test.YtlchbjocemegbaaChecked
import GoSem.Claim
import GoSem.ClaimJoined
import GoSem.ClaimMapViews
import Derived.JoinedTies
import Derived.KernelRfl
namespace Go.Proofs.Ytlchbjocemegbaa
/- THE CELL 'sum', in the pinned program and in every row, IS THE sha256 OF THE DUMP (.gsa) THAT YtlchbjocemegbaaProg.lean LOADS. Nothing in Lean hashes anything: it is a label: what it is worth is what the hold of that sum in a sandbox is worth. -/
noncomputable def Try.pinned : Pinned := { name := "ytlchbjocemegbaa", sum := "f2f1d9295ef4dd5e99cffd68e25c0e1082cbbbd0a2961c3dac06d206eebc91c7", checked := Try.checked }
namespace Rows
def none {H : Type} : Left H := { results := [], args := [] }

/-- 'aileronlaw02.BitsGet': WHATEVER THE INPUT: true; the input reads as it did. -/
def bitsGetSpec : ChangeSpec := { name := "bitsGet", fn := fun _ => fun
  | [d1, d2] => { results := [.lit (.bool true)], args := [d1, d2] }
  | _ => none }
def bitsGetRow : OpenClaim := { program := "ytlchbjocemegbaa", sum := "f2f1d9295ef4dd5e99cffd68e25c0e1082cbbbd0a2961c3dac06d206eebc91c7", func := "aileron/aileronlaw02.BitsGet", spec := "bitsGet", unfollowed := true, recurses := true, apart := false }
def BitsGetSaid : Prop := bitsGetRow.holds Try.pinned (OpenSpec.ofChange bitsGetSpec)

/-- ITS FALSE NEIGHBOUR: 'it returns false'. Refute it at one input. -/
def bitsGetWrong : ChangeSpec := { name := "bitsGet", fn := fun _ => fun
  | [d1, d2] => { results := [.lit (.bool false)], args := [d1, d2] }
  | _ => none }
def BitsGetWrongFalsely : Prop := bitsGetRow.holds Try.pinned (OpenSpec.ofChange bitsGetWrong)

/-- 'aileronlaw02.BitsPut': WHATEVER THE INPUT: true; the input reads as it did. -/
def bitsPutSpec : ChangeSpec := { name := "bitsPut", fn := fun _ => fun
  | [d1, d2, d3] => { results := [.lit (.bool true)], args := [d1, d2, d3] }
  | _ => none }
def bitsPutRow : OpenClaim := { program := "ytlchbjocemegbaa", sum := "f2f1d9295ef4dd5e99cffd68e25c0e1082cbbbd0a2961c3dac06d206eebc91c7", func := "aileron/aileronlaw02.BitsPut", spec := "bitsPut", unfollowed := true, recurses := true, apart := false }
def BitsPutSaid : Prop := bitsPutRow.holds Try.pinned (OpenSpec.ofChange bitsPutSpec)

/-- ITS FALSE NEIGHBOUR: 'it returns false'. Refute it at one input. -/
def bitsPutWrong : ChangeSpec := { name := "bitsPut", fn := fun _ => fun
  | [d1, d2, d3] => { results := [.lit (.bool false)], args := [d1, d2, d3] }
  | _ => none }
def BitsPutWrongFalsely : Prop := bitsPutRow.holds Try.pinned (OpenSpec.ofChange bitsPutWrong)

/-- 'aileronlaw02.BitsApart': WHATEVER THE INPUT: true; the input reads as it did. -/
def bitsApartSpec : ChangeSpec := { name := "bitsApart", fn := fun _ => fun
  | [d1, d2, d3] => { results := [.lit (.bool true)], args := [d1, d2, d3] }
  | _ => none }
def bitsApartRow : OpenClaim := { program := "ytlchbjocemegbaa", sum := "f2f1d9295ef4dd5e99cffd68e25c0e1082cbbbd0a2961c3dac06d206eebc91c7", func := "aileron/aileronlaw02.BitsApart", spec := "bitsApart", unfollowed := true, recurses := true, apart := false }
def BitsApartSaid : Prop := bitsApartRow.holds Try.pinned (OpenSpec.ofChange bitsApartSpec)

/-- ITS FALSE NEIGHBOUR: 'it returns false'. Refute it at one input. -/
def bitsApartWrong : ChangeSpec := { name := "bitsApart", fn := fun _ => fun
  | [d1, d2, d3] => { results := [.lit (.bool false)], args := [d1, d2, d3] }
  | _ => none }
def BitsApartWrongFalsely : Prop := bitsApartRow.holds Try.pinned (OpenSpec.ofChange bitsApartWrong)

/-- 'aileronlaw02.BitsRows': WHATEVER THE INPUT: true; the input reads as it did. -/
def bitsRowsSpec : ChangeSpec := { name := "bitsRows", fn := fun _ => fun
  | [d] => { results := [.lit (.bool true)], args := [d] }
  | _ => none }
def bitsRowsRow : OpenClaim := { program := "ytlchbjocemegbaa", sum := "f2f1d9295ef4dd5e99cffd68e25c0e1082cbbbd0a2961c3dac06d206eebc91c7", func := "aileron/aileronlaw02.BitsRows", spec := "bitsRows", unfollowed := true, recurses := true, apart := false }
def BitsRowsSaid : Prop := bitsRowsRow.holds Try.pinned (OpenSpec.ofChange bitsRowsSpec)

/-- ITS FALSE NEIGHBOUR: 'it returns false'. Refute it at one input. -/
def bitsRowsWrong : ChangeSpec := { name := "bitsRows", fn := fun _ => fun
  | [d] => { results := [.lit (.bool false)], args := [d] }
  | _ => none }
def BitsRowsWrongFalsely : Prop := bitsRowsRow.holds Try.pinned (OpenSpec.ofChange bitsRowsWrong)

/-- 'aileronlaw02.BitsSigned': WHATEVER THE INPUT: true; the input reads as it did. -/
def bitsSignedSpec : ChangeSpec := { name := "bitsSigned", fn := fun _ => fun
  | [d1, d2, d3] => { results := [.lit (.bool true)], args := [d1, d2, d3] }
  | _ => none }
def bitsSignedRow : OpenClaim := { program := "ytlchbjocemegbaa", sum := "f2f1d9295ef4dd5e99cffd68e25c0e1082cbbbd0a2961c3dac06d206eebc91c7", func := "aileron/aileronlaw02.BitsSigned", spec := "bitsSigned", unfollowed := true, recurses := true, apart := false }
def BitsSignedSaid : Prop := bitsSignedRow.holds Try.pinned (OpenSpec.ofChange bitsSignedSpec)

/-- ITS FALSE NEIGHBOUR: 'it returns false'. Refute it at one input. -/
def bitsSignedWrong : ChangeSpec := { name := "bitsSigned", fn := fun _ => fun
  | [d1, d2, d3] => { results := [.lit (.bool false)], args := [d1, d2, d3] }
  | _ => none }
def BitsSignedWrongFalsely : Prop := bitsSignedRow.holds Try.pinned (OpenSpec.ofChange bitsSignedWrong)

/-- 'aileronlaw02.BitsBack': WHATEVER THE INPUT: true; the input reads as it did. -/
def bitsBackSpec : ChangeSpec := { name := "bitsBack", fn := fun _ => fun
  | [d1, d2, d3] => { results := [.lit (.bool true)], args := [d1, d2, d3] }
  | _ => none }
def bitsBackRow : OpenClaim := { program := "ytlchbjocemegbaa", sum := "f2f1d9295ef4dd5e99cffd68e25c0e1082cbbbd0a2961c3dac06d206eebc91c7", func := "aileron/aileronlaw02.BitsBack", spec := "bitsBack", unfollowed := true, recurses := true, apart := false }
def BitsBackSaid : Prop := bitsBackRow.holds Try.pinned (OpenSpec.ofChange bitsBackSpec)

/-- ITS FALSE NEIGHBOUR: 'it returns false'. Refute it at one input. -/
def bitsBackWrong : ChangeSpec := { name := "bitsBack", fn := fun _ => fun
  | [d1, d2, d3] => { results := [.lit (.bool false)], args := [d1, d2, d3] }
  | _ => none }
def BitsBackWrongFalsely : Prop := bitsBackRow.holds Try.pinned (OpenSpec.ofChange bitsBackWrong)

/-- 'aileronlaw02.BitsJoins': WHATEVER THE INPUT: true; the input reads as it did. -/
def bitsJoinsSpec : ChangeSpec := { name := "bitsJoins", fn := fun _ => fun
  | [d1, d2, d3] => { results := [.lit (.bool true)], args := [d1, d2, d3] }
  | _ => none }
def bitsJoinsRow : OpenClaim := { program := "ytlchbjocemegbaa", sum := "f2f1d9295ef4dd5e99cffd68e25c0e1082cbbbd0a2961c3dac06d206eebc91c7", func := "aileron/aileronlaw02.BitsJoins", spec := "bitsJoins", unfollowed := true, recurses := true, apart := false }
def BitsJoinsSaid : Prop := bitsJoinsRow.holds Try.pinned (OpenSpec.ofChange bitsJoinsSpec)

/-- ITS FALSE NEIGHBOUR: 'it returns false'. Refute it at one input. -/
def bitsJoinsWrong : ChangeSpec := { name := "bitsJoins", fn := fun _ => fun
  | [d1, d2, d3] => { results := [.lit (.bool false)], args := [d1, d2, d3] }
  | _ => none }
def BitsJoinsWrongFalsely : Prop := bitsJoinsRow.holds Try.pinned (OpenSpec.ofChange bitsJoinsWrong)

/-- 'aileronlaw02.BitsWhole': WHATEVER THE INPUT: true; the input reads as it did. -/
def bitsWholeSpec : ChangeSpec := { name := "bitsWhole", fn := fun _ => fun
  | [d1, d2, d3] => { results := [.lit (.bool true)], args := [d1, d2, d3] }
  | _ => none }
def bitsWholeRow : OpenClaim := { program := "ytlchbjocemegbaa", sum := "f2f1d9295ef4dd5e99cffd68e25c0e1082cbbbd0a2961c3dac06d206eebc91c7", func := "aileron/aileronlaw02.BitsWhole", spec := "bitsWhole", unfollowed := true, recurses := true, apart := false }
def BitsWholeSaid : Prop := bitsWholeRow.holds Try.pinned (OpenSpec.ofChange bitsWholeSpec)

/-- ITS FALSE NEIGHBOUR: 'it returns false'. Refute it at one input. -/
def bitsWholeWrong : ChangeSpec := { name := "bitsWhole", fn := fun _ => fun
  | [d1, d2, d3] => { results := [.lit (.bool false)], args := [d1, d2, d3] }
  | _ => none }
def BitsWholeWrongFalsely : Prop := bitsWholeRow.holds Try.pinned (OpenSpec.ofChange bitsWholeWrong)

/- THE SECOND FORM. 'bulk': how many values and letters a reading holds, each counted each time it is reached (what is shared counts as often as it is met; a slice's spare places count too). A statement '..UptoSaid' is the law's where the arguments, and the package variables that the reading takes, are together of bulk at most 1048576: NARROWER than '..Said'. Prove '..Said' where nothing that the law and all that it calls make is longer than what came in: it says more and counts as full. Else prove '..UptoSaid'. A law counts once. -/
mutual
def uptoBulk {H : Type} : DataW H → Nat
  | .lit (.string bytes) => bytes.length + 1
  | .lit _ => 1
  | .nil => 1
  | .ptr d => uptoBulk d + 1
  | .slice elems spare => uptoBulkAll elems + uptoBulkAll spare + 1
  | .agg parts => uptoBulkAll parts + 1
  | .iface _ d => uptoBulk d + 1
  | .map entries => uptoBulkEntries entries + 1
  | .held _ => 1
def uptoBulkAll {H : Type} : List (DataW H) → Nat
  | [] => 0
  | d :: r => uptoBulk d + uptoBulkAll r
def uptoBulkEntries {H : Type} : List (Lit × DataW H) → Nat
  | [] => 0
  | x :: r => uptoBulkEntry x + uptoBulkEntries r
def uptoBulkEntry {H : Type} : Lit × DataW H → Nat
  | (.string bytes, d) => bytes.length + uptoBulk d + 1
  | (_, d) => uptoBulk d + 1
 end
def uptoSmall : (H : Type) → List (DataW H) → Bool := fun _ ds => decide (uptoBulkAll ds ≤ 1048576)
def OpenSpec.upto (s : _root_.Go.ChangeSpec) : _root_.Go.OpenSpec := { _root_.Go.OpenSpec.ofChange s with cond := some uptoSmall }

/-- 'aileronlaw02.BitsGet', WHERE WHAT IT READS IS OF BULK AT MOST 1048576: true; the input reads as it did. -/
def bitsGetUptoRow : OpenClaim := { program := "ytlchbjocemegbaa", sum := "f2f1d9295ef4dd5e99cffd68e25c0e1082cbbbd0a2961c3dac06d206eebc91c7", func := "aileron/aileronlaw02.BitsGet", spec := "bitsGet", unfollowed := true, recurses := true, apart := false, narrowed := true }
def BitsGetUptoSaid : Prop := bitsGetUptoRow.holds Try.pinned (OpenSpec.upto bitsGetSpec)

/-- 'aileronlaw02.BitsPut', WHERE WHAT IT READS IS OF BULK AT MOST 1048576: true; the input reads as it did. -/
def bitsPutUptoRow : OpenClaim := { program := "ytlchbjocemegbaa", sum := "f2f1d9295ef4dd5e99cffd68e25c0e1082cbbbd0a2961c3dac06d206eebc91c7", func := "aileron/aileronlaw02.BitsPut", spec := "bitsPut", unfollowed := true, recurses := true, apart := false, narrowed := true }
def BitsPutUptoSaid : Prop := bitsPutUptoRow.holds Try.pinned (OpenSpec.upto bitsPutSpec)

/-- 'aileronlaw02.BitsApart', WHERE WHAT IT READS IS OF BULK AT MOST 1048576: true; the input reads as it did. -/
def bitsApartUptoRow : OpenClaim := { program := "ytlchbjocemegbaa", sum := "f2f1d9295ef4dd5e99cffd68e25c0e1082cbbbd0a2961c3dac06d206eebc91c7", func := "aileron/aileronlaw02.BitsApart", spec := "bitsApart", unfollowed := true, recurses := true, apart := false, narrowed := true }
def BitsApartUptoSaid : Prop := bitsApartUptoRow.holds Try.pinned (OpenSpec.upto bitsApartSpec)

/-- 'aileronlaw02.BitsRows', WHERE WHAT IT READS IS OF BULK AT MOST 1048576: true; the input reads as it did. -/
def bitsRowsUptoRow : OpenClaim := { program := "ytlchbjocemegbaa", sum := "f2f1d9295ef4dd5e99cffd68e25c0e1082cbbbd0a2961c3dac06d206eebc91c7", func := "aileron/aileronlaw02.BitsRows", spec := "bitsRows", unfollowed := true, recurses := true, apart := false, narrowed := true }
def BitsRowsUptoSaid : Prop := bitsRowsUptoRow.holds Try.pinned (OpenSpec.upto bitsRowsSpec)

/-- 'aileronlaw02.BitsSigned', WHERE WHAT IT READS IS OF BULK AT MOST 1048576: true; the input reads as it did. -/
def bitsSignedUptoRow : OpenClaim := { program := "ytlchbjocemegbaa", sum := "f2f1d9295ef4dd5e99cffd68e25c0e1082cbbbd0a2961c3dac06d206eebc91c7", func := "aileron/aileronlaw02.BitsSigned", spec := "bitsSigned", unfollowed := true, recurses := true, apart := false, narrowed := true }
def BitsSignedUptoSaid : Prop := bitsSignedUptoRow.holds Try.pinned (OpenSpec.upto bitsSignedSpec)

/-- 'aileronlaw02.BitsBack', WHERE WHAT IT READS IS OF BULK AT MOST 1048576: true; the input reads as it did. -/
def bitsBackUptoRow : OpenClaim := { program := "ytlchbjocemegbaa", sum := "f2f1d9295ef4dd5e99cffd68e25c0e1082cbbbd0a2961c3dac06d206eebc91c7", func := "aileron/aileronlaw02.BitsBack", spec := "bitsBack", unfollowed := true, recurses := true, apart := false, narrowed := true }
def BitsBackUptoSaid : Prop := bitsBackUptoRow.holds Try.pinned (OpenSpec.upto bitsBackSpec)

/-- 'aileronlaw02.BitsJoins', WHERE WHAT IT READS IS OF BULK AT MOST 1048576: true; the input reads as it did. -/
def bitsJoinsUptoRow : OpenClaim := { program := "ytlchbjocemegbaa", sum := "f2f1d9295ef4dd5e99cffd68e25c0e1082cbbbd0a2961c3dac06d206eebc91c7", func := "aileron/aileronlaw02.BitsJoins", spec := "bitsJoins", unfollowed := true, recurses := true, apart := false, narrowed := true }
def BitsJoinsUptoSaid : Prop := bitsJoinsUptoRow.holds Try.pinned (OpenSpec.upto bitsJoinsSpec)

/-- 'aileronlaw02.BitsWhole', WHERE WHAT IT READS IS OF BULK AT MOST 1048576: true; the input reads as it did. -/
def bitsWholeUptoRow : OpenClaim := { program := "ytlchbjocemegbaa", sum := "f2f1d9295ef4dd5e99cffd68e25c0e1082cbbbd0a2961c3dac06d206eebc91c7", func := "aileron/aileronlaw02.BitsWhole", spec := "bitsWhole", unfollowed := true, recurses := true, apart := false, narrowed := true }
def BitsWholeUptoSaid : Prop := bitsWholeUptoRow.holds Try.pinned (OpenSpec.upto bitsWholeSpec)

end Rows
end Go.Proofs.Ytlchbjocemegbaa
