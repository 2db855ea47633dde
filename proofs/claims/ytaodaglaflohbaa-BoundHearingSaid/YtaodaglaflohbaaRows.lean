/-
  No cell of these rows narrows 'for every input' (looked for: loops, veiled, ifaces, maps, wideKeys, modest, calm, conditions, laid).
  DERIVED. THE GIVEN ROWS OF THIS SEAT. 8 by the template 'for every input the law returns true; each argument reads behind the call as it read before'; 0 by the template 'total and deterministic' (their statements: YtaodaglaflohbaaTotals.lean).
  GIVEN WITH THE SEED: the statements are not yours to turn. If you find one false, say at which input.
  Laid BY PROGRAM, IN A SANDBOX (cutbox-rows.mjs): the forced cells as the released guide's own fill.sh prints them over the translation e1c4f0960a30da5a… (all of the seat's roots in one cut). By AI agents, Wed Nov 11 2026. No macro, syntax, notation, axiom, sorry.
-/
import Derived.Test.YtaodaglaflohbaaChecked
import GoSem.Claim
import GoSem.ClaimJoined
import GoSem.ClaimMapViews
import Derived.JoinedTies
import Derived.KernelRfl
namespace Go.Proofs.Ytaodaglaflohbaa
/- THE CELL 'sum', in the pinned program and in every row, IS THE sha256 OF THE DUMP (.gsa) THAT YtaodaglaflohbaaProg.lean LOADS. Nothing in Lean hashes anything: it is a label: what it is worth is what the hold of that sum in a sandbox is worth. -/
noncomputable def Try.pinned : Pinned := { name := "ytaodaglaflohbaa", sum := "e1c4f0960a30da5a147e85c9365349d083a7bce8344c26424a5ad5d78f6eae65", checked := Try.checked }
namespace Rows
def none {H : Type} : Left H := { results := [], args := [] }

/-- 'slotmeshlaw08.BoundMatchesReference': WHATEVER THE INPUT: true; the input reads as it did. -/
def boundMatchesReferenceSpec : ChangeSpec := { name := "boundMatchesReference", fn := fun _ => fun
  | [d1, d2, d3, d4] => { results := [.lit (.bool true)], args := [d1, d2, d3, d4] }
  | _ => none }
def boundMatchesReferenceRow : OpenClaim := { program := "ytaodaglaflohbaa", sum := "e1c4f0960a30da5a147e85c9365349d083a7bce8344c26424a5ad5d78f6eae65", func := "slotmesh/slotmeshlaw08.BoundMatchesReference", spec := "boundMatchesReference", apart := false }
def BoundMatchesReferenceSaid : Prop := boundMatchesReferenceRow.holds Try.pinned (OpenSpec.ofChange boundMatchesReferenceSpec)

/-- ITS FALSE NEIGHBOUR: 'it returns false'. Refute it at one input. -/
def boundMatchesReferenceWrong : ChangeSpec := { name := "boundMatchesReference", fn := fun _ => fun
  | [d1, d2, d3, d4] => { results := [.lit (.bool false)], args := [d1, d2, d3, d4] }
  | _ => none }
def BoundMatchesReferenceWrongFalsely : Prop := boundMatchesReferenceRow.holds Try.pinned (OpenSpec.ofChange boundMatchesReferenceWrong)

/-- 'slotmeshlaw08.BoundOrder': WHATEVER THE INPUT: true; the input reads as it did. -/
def boundOrderSpec : ChangeSpec := { name := "boundOrder", fn := fun _ => fun
  | [d1, d2] => { results := [.lit (.bool true)], args := [d1, d2] }
  | _ => none }
def boundOrderRow : OpenClaim := { program := "ytaodaglaflohbaa", sum := "e1c4f0960a30da5a147e85c9365349d083a7bce8344c26424a5ad5d78f6eae65", func := "slotmesh/slotmeshlaw08.BoundOrder", spec := "boundOrder", apart := false }
def BoundOrderSaid : Prop := boundOrderRow.holds Try.pinned (OpenSpec.ofChange boundOrderSpec)

/-- ITS FALSE NEIGHBOUR: 'it returns false'. Refute it at one input. -/
def boundOrderWrong : ChangeSpec := { name := "boundOrder", fn := fun _ => fun
  | [d1, d2] => { results := [.lit (.bool false)], args := [d1, d2] }
  | _ => none }
def BoundOrderWrongFalsely : Prop := boundOrderRow.holds Try.pinned (OpenSpec.ofChange boundOrderWrong)

/-- 'slotmeshlaw08.BoundLater': WHATEVER THE INPUT: true; the input reads as it did. -/
def boundLaterSpec : ChangeSpec := { name := "boundLater", fn := fun _ => fun
  | [d1, d2, d3] => { results := [.lit (.bool true)], args := [d1, d2, d3] }
  | _ => none }
def boundLaterRow : OpenClaim := { program := "ytaodaglaflohbaa", sum := "e1c4f0960a30da5a147e85c9365349d083a7bce8344c26424a5ad5d78f6eae65", func := "slotmesh/slotmeshlaw08.BoundLater", spec := "boundLater", apart := false }
def BoundLaterSaid : Prop := boundLaterRow.holds Try.pinned (OpenSpec.ofChange boundLaterSpec)

/-- ITS FALSE NEIGHBOUR: 'it returns false'. Refute it at one input. -/
def boundLaterWrong : ChangeSpec := { name := "boundLater", fn := fun _ => fun
  | [d1, d2, d3] => { results := [.lit (.bool false)], args := [d1, d2, d3] }
  | _ => none }
def BoundLaterWrongFalsely : Prop := boundLaterRow.holds Try.pinned (OpenSpec.ofChange boundLaterWrong)

/-- 'slotmeshlaw08.BoundWidths': WHATEVER THE INPUT: true; the input reads as it did. -/
def boundWidthsSpec : ChangeSpec := { name := "boundWidths", fn := fun _ => fun
  | [d1, d2] => { results := [.lit (.bool true)], args := [d1, d2] }
  | _ => none }
def boundWidthsRow : OpenClaim := { program := "ytaodaglaflohbaa", sum := "e1c4f0960a30da5a147e85c9365349d083a7bce8344c26424a5ad5d78f6eae65", func := "slotmesh/slotmeshlaw08.BoundWidths", spec := "boundWidths", apart := false }
def BoundWidthsSaid : Prop := boundWidthsRow.holds Try.pinned (OpenSpec.ofChange boundWidthsSpec)

/-- ITS FALSE NEIGHBOUR: 'it returns false'. Refute it at one input. -/
def boundWidthsWrong : ChangeSpec := { name := "boundWidths", fn := fun _ => fun
  | [d1, d2] => { results := [.lit (.bool false)], args := [d1, d2] }
  | _ => none }
def BoundWidthsWrongFalsely : Prop := boundWidthsRow.holds Try.pinned (OpenSpec.ofChange boundWidthsWrong)

/-- 'slotmeshlaw08.BoundNarrower': WHATEVER THE INPUT: true; the input reads as it did. -/
def boundNarrowerSpec : ChangeSpec := { name := "boundNarrower", fn := fun _ => fun
  | [d1, d2, d3, d4, d5] => { results := [.lit (.bool true)], args := [d1, d2, d3, d4, d5] }
  | _ => none }
def boundNarrowerRow : OpenClaim := { program := "ytaodaglaflohbaa", sum := "e1c4f0960a30da5a147e85c9365349d083a7bce8344c26424a5ad5d78f6eae65", func := "slotmesh/slotmeshlaw08.BoundNarrower", spec := "boundNarrower", apart := false }
def BoundNarrowerSaid : Prop := boundNarrowerRow.holds Try.pinned (OpenSpec.ofChange boundNarrowerSpec)

/-- ITS FALSE NEIGHBOUR: 'it returns false'. Refute it at one input. -/
def boundNarrowerWrong : ChangeSpec := { name := "boundNarrower", fn := fun _ => fun
  | [d1, d2, d3, d4, d5] => { results := [.lit (.bool false)], args := [d1, d2, d3, d4, d5] }
  | _ => none }
def BoundNarrowerWrongFalsely : Prop := boundNarrowerRow.holds Try.pinned (OpenSpec.ofChange boundNarrowerWrong)

/-- 'slotmeshlaw08.BoundGrowing': WHATEVER THE INPUT: true; the input reads as it did. -/
def boundGrowingSpec : ChangeSpec := { name := "boundGrowing", fn := fun _ => fun
  | [d1, d2, d3, d4, d5] => { results := [.lit (.bool true)], args := [d1, d2, d3, d4, d5] }
  | _ => none }
def boundGrowingRow : OpenClaim := { program := "ytaodaglaflohbaa", sum := "e1c4f0960a30da5a147e85c9365349d083a7bce8344c26424a5ad5d78f6eae65", func := "slotmesh/slotmeshlaw08.BoundGrowing", spec := "boundGrowing", apart := false }
def BoundGrowingSaid : Prop := boundGrowingRow.holds Try.pinned (OpenSpec.ofChange boundGrowingSpec)

/-- ITS FALSE NEIGHBOUR: 'it returns false'. Refute it at one input. -/
def boundGrowingWrong : ChangeSpec := { name := "boundGrowing", fn := fun _ => fun
  | [d1, d2, d3, d4, d5] => { results := [.lit (.bool false)], args := [d1, d2, d3, d4, d5] }
  | _ => none }
def BoundGrowingWrongFalsely : Prop := boundGrowingRow.holds Try.pinned (OpenSpec.ofChange boundGrowingWrong)

/-- 'slotmeshlaw08.BoundMeeting': WHATEVER THE INPUT: true; the input reads as it did. -/
def boundMeetingSpec : ChangeSpec := { name := "boundMeeting", fn := fun _ => fun
  | [d1, d2, d3, d4, d5, d6, d7] => { results := [.lit (.bool true)], args := [d1, d2, d3, d4, d5, d6, d7] }
  | _ => none }
def boundMeetingRow : OpenClaim := { program := "ytaodaglaflohbaa", sum := "e1c4f0960a30da5a147e85c9365349d083a7bce8344c26424a5ad5d78f6eae65", func := "slotmesh/slotmeshlaw08.BoundMeeting", spec := "boundMeeting", apart := false }
def BoundMeetingSaid : Prop := boundMeetingRow.holds Try.pinned (OpenSpec.ofChange boundMeetingSpec)

/-- ITS FALSE NEIGHBOUR: 'it returns false'. Refute it at one input. -/
def boundMeetingWrong : ChangeSpec := { name := "boundMeeting", fn := fun _ => fun
  | [d1, d2, d3, d4, d5, d6, d7] => { results := [.lit (.bool false)], args := [d1, d2, d3, d4, d5, d6, d7] }
  | _ => none }
def BoundMeetingWrongFalsely : Prop := boundMeetingRow.holds Try.pinned (OpenSpec.ofChange boundMeetingWrong)

/-- 'slotmeshlaw08.BoundHearing': WHATEVER THE INPUT: true; the input reads as it did. -/
def boundHearingSpec : ChangeSpec := { name := "boundHearing", fn := fun _ => fun
  | [d1, d2, d3, d4] => { results := [.lit (.bool true)], args := [d1, d2, d3, d4] }
  | _ => none }
def boundHearingRow : OpenClaim := { program := "ytaodaglaflohbaa", sum := "e1c4f0960a30da5a147e85c9365349d083a7bce8344c26424a5ad5d78f6eae65", func := "slotmesh/slotmeshlaw08.BoundHearing", spec := "boundHearing", apart := false }
def BoundHearingSaid : Prop := boundHearingRow.holds Try.pinned (OpenSpec.ofChange boundHearingSpec)

/-- ITS FALSE NEIGHBOUR: 'it returns false'. Refute it at one input. -/
def boundHearingWrong : ChangeSpec := { name := "boundHearing", fn := fun _ => fun
  | [d1, d2, d3, d4] => { results := [.lit (.bool false)], args := [d1, d2, d3, d4] }
  | _ => none }
def BoundHearingWrongFalsely : Prop := boundHearingRow.holds Try.pinned (OpenSpec.ofChange boundHearingWrong)

/- THE SECOND FORM. 'bulk': how many values and letters a reading holds, each counted each time it is reached (what is shared counts as often as it is met; a slice's spare places count too). A statement '..UptoSaid' is the law's where the arguments, and the package variables that the reading takes, are together of bulk at most 1048576: NARROWER than '..Said'. Prove '..Said' where nothing that the law and all that it calls make is longer than what came in: it says more and counts as full. Else prove '..UptoSaid'. A law counts once. -/
mutual
def uptoBulk {H : Type} : DataW H → Nat
  | .lit (.string bytes) => bytes.length + 1
  | .lit _ => 1
  | .nil => 1
  | .ptr d => uptoBulk d + 1
  | .slice elems spare => uptoBulkAll elems + uptoBulkAll spare + 1
  | .agg parts => uptoBulkAll parts + 1
  | .iface _ d => uptoBulk d + 1
  | .map entries => uptoBulkEntries entries + 1
  | .held _ => 1
def uptoBulkAll {H : Type} : List (DataW H) → Nat
  | [] => 0
  | d :: r => uptoBulk d + uptoBulkAll r
def uptoBulkEntries {H : Type} : List (Lit × DataW H) → Nat
  | [] => 0
  | x :: r => uptoBulkEntry x + uptoBulkEntries r
def uptoBulkEntry {H : Type} : Lit × DataW H → Nat
  | (.string bytes, d) => bytes.length + uptoBulk d + 1
  | (_, d) => uptoBulk d + 1
 end
def uptoSmall : (H : Type) → List (DataW H) → Bool := fun _ ds => decide (uptoBulkAll ds ≤ 1048576)
def OpenSpec.upto (s : _root_.Go.ChangeSpec) : _root_.Go.OpenSpec := { _root_.Go.OpenSpec.ofChange s with cond := some uptoSmall }

/-- 'slotmeshlaw08.BoundMatchesReference', WHERE WHAT IT READS IS OF BULK AT MOST 1048576: true; the input reads as it did. -/
def boundMatchesReferenceUptoRow : OpenClaim := { program := "ytaodaglaflohbaa", sum := "e1c4f0960a30da5a147e85c9365349d083a7bce8344c26424a5ad5d78f6eae65", func := "slotmesh/slotmeshlaw08.BoundMatchesReference", spec := "boundMatchesReference", apart := false, narrowed := true }
def BoundMatchesReferenceUptoSaid : Prop := boundMatchesReferenceUptoRow.holds Try.pinned (OpenSpec.upto boundMatchesReferenceSpec)

/-- 'slotmeshlaw08.BoundOrder', WHERE WHAT IT READS IS OF BULK AT MOST 1048576: true; the input reads as it did. -/
def boundOrderUptoRow : OpenClaim := { program := "ytaodaglaflohbaa", sum := "e1c4f0960a30da5a147e85c9365349d083a7bce8344c26424a5ad5d78f6eae65", func := "slotmesh/slotmeshlaw08.BoundOrder", spec := "boundOrder", apart := false, narrowed := true }
def BoundOrderUptoSaid : Prop := boundOrderUptoRow.holds Try.pinned (OpenSpec.upto boundOrderSpec)

/-- 'slotmeshlaw08.BoundLater', WHERE WHAT IT READS IS OF BULK AT MOST 1048576: true; the input reads as it did. -/
def boundLaterUptoRow : OpenClaim := { program := "ytaodaglaflohbaa", sum := "e1c4f0960a30da5a147e85c9365349d083a7bce8344c26424a5ad5d78f6eae65", func := "slotmesh/slotmeshlaw08.BoundLater", spec := "boundLater", apart := false, narrowed := true }
def BoundLaterUptoSaid : Prop := boundLaterUptoRow.holds Try.pinned (OpenSpec.upto boundLaterSpec)

/-- 'slotmeshlaw08.BoundWidths', WHERE WHAT IT READS IS OF BULK AT MOST 1048576: true; the input reads as it did. -/
def boundWidthsUptoRow : OpenClaim := { program := "ytaodaglaflohbaa", sum := "e1c4f0960a30da5a147e85c9365349d083a7bce8344c26424a5ad5d78f6eae65", func := "slotmesh/slotmeshlaw08.BoundWidths", spec := "boundWidths", apart := false, narrowed := true }
def BoundWidthsUptoSaid : Prop := boundWidthsUptoRow.holds Try.pinned (OpenSpec.upto boundWidthsSpec)

/-- 'slotmeshlaw08.BoundNarrower', WHERE WHAT IT READS IS OF BULK AT MOST 1048576: true; the input reads as it did. -/
def boundNarrowerUptoRow : OpenClaim := { program := "ytaodaglaflohbaa", sum := "e1c4f0960a30da5a147e85c9365349d083a7bce8344c26424a5ad5d78f6eae65", func := "slotmesh/slotmeshlaw08.BoundNarrower", spec := "boundNarrower", apart := false, narrowed := true }
def BoundNarrowerUptoSaid : Prop := boundNarrowerUptoRow.holds Try.pinned (OpenSpec.upto boundNarrowerSpec)

/-- 'slotmeshlaw08.BoundGrowing', WHERE WHAT IT READS IS OF BULK AT MOST 1048576: true; the input reads as it did. -/
def boundGrowingUptoRow : OpenClaim := { program := "ytaodaglaflohbaa", sum := "e1c4f0960a30da5a147e85c9365349d083a7bce8344c26424a5ad5d78f6eae65", func := "slotmesh/slotmeshlaw08.BoundGrowing", spec := "boundGrowing", apart := false, narrowed := true }
def BoundGrowingUptoSaid : Prop := boundGrowingUptoRow.holds Try.pinned (OpenSpec.upto boundGrowingSpec)

/-- 'slotmeshlaw08.BoundMeeting', WHERE WHAT IT READS IS OF BULK AT MOST 1048576: true; the input reads as it did. -/
def boundMeetingUptoRow : OpenClaim := { program := "ytaodaglaflohbaa", sum := "e1c4f0960a30da5a147e85c9365349d083a7bce8344c26424a5ad5d78f6eae65", func := "slotmesh/slotmeshlaw08.BoundMeeting", spec := "boundMeeting", apart := false, narrowed := true }
def BoundMeetingUptoSaid : Prop := boundMeetingUptoRow.holds Try.pinned (OpenSpec.upto boundMeetingSpec)

/-- 'slotmeshlaw08.BoundHearing', WHERE WHAT IT READS IS OF BULK AT MOST 1048576: true; the input reads as it did. -/
def boundHearingUptoRow : OpenClaim := { program := "ytaodaglaflohbaa", sum := "e1c4f0960a30da5a147e85c9365349d083a7bce8344c26424a5ad5d78f6eae65", func := "slotmesh/slotmeshlaw08.BoundHearing", spec := "boundHearing", apart := false, narrowed := true }
def BoundHearingUptoSaid : Prop := boundHearingUptoRow.holds Try.pinned (OpenSpec.upto boundHearingSpec)

end Rows
end Go.Proofs.Ytaodaglaflohbaa
