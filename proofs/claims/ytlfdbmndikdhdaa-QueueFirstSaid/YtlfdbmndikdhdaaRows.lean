/-
  No cell of these rows narrows 'for every input' (looked for: loops, veiled, ifaces, maps, wideKeys, modest, calm, conditions, laid).
  DERIVED. THE GIVEN ROWS OF THIS SEAT. 6 by the template 'for every input the law returns true; each argument reads behind the call as it read before'; 0 by the template 'total and deterministic' (their statements: YtlfdbmndikdhdaaTotals.lean).
  GIVEN WITH THE SEED: the statements are not yours to turn. If you find one false, say at which input.
  Laid BY PROGRAM, IN A SANDBOX (cutbox-rows.mjs): the forced cells as the released guide's own fill.sh prints them over the translation 181b4ba81108284f… (all of the seat's roots in one cut). By AI agents, Wed Nov 11 2026. No macro, syntax, notation, axiom, sorry.
-/
import Derived.Test.YtlfdbmndikdhdaaChecked
import GoSem.Claim
import GoSem.ClaimJoined
import GoSem.ClaimMapViews
import Derived.JoinedTies
import Derived.KernelRfl
namespace Go.Proofs.Ytlfdbmndikdhdaa
/- THE CELL 'sum', in the pinned program and in every row, IS THE sha256 OF THE DUMP (.gsa) THAT YtlfdbmndikdhdaaProg.lean LOADS. Nothing in Lean hashes anything: it is a label: what it is worth is what the hold of that sum in a sandbox is worth. -/
noncomputable def Try.pinned : Pinned := { name := "ytlfdbmndikdhdaa", sum := "181b4ba81108284f86aa41ba663880275fdd5b53f72aac10ce810e2e9ff9b5a7", checked := Try.checked }
namespace Rows
def none {H : Type} : Left H := { results := [], args := [] }

/-- 'slotmeshlaw27.QueueMatchesReference': WHATEVER THE INPUT: true; the input reads as it did. -/
def queueMatchesReferenceSpec : ChangeSpec := { name := "queueMatchesReference", fn := fun _ => fun
  | [d1, d2, d3, d4, d5] => { results := [.lit (.bool true)], args := [d1, d2, d3, d4, d5] }
  | _ => none }
def queueMatchesReferenceRow : OpenClaim := { program := "ytlfdbmndikdhdaa", sum := "181b4ba81108284f86aa41ba663880275fdd5b53f72aac10ce810e2e9ff9b5a7", func := "slotmesh/slotmeshlaw27.QueueMatchesReference", spec := "queueMatchesReference", unfollowed := true, recurses := true, apart := false }
def QueueMatchesReferenceSaid : Prop := queueMatchesReferenceRow.holds Try.pinned (OpenSpec.ofChange queueMatchesReferenceSpec)

/-- ITS FALSE NEIGHBOUR: 'it returns false'. Refute it at one input. -/
def queueMatchesReferenceWrong : ChangeSpec := { name := "queueMatchesReference", fn := fun _ => fun
  | [d1, d2, d3, d4, d5] => { results := [.lit (.bool false)], args := [d1, d2, d3, d4, d5] }
  | _ => none }
def QueueMatchesReferenceWrongFalsely : Prop := queueMatchesReferenceRow.holds Try.pinned (OpenSpec.ofChange queueMatchesReferenceWrong)

/-- 'slotmeshlaw27.QueueFirst': WHATEVER THE INPUT: true; the input reads as it did. -/
def queueFirstSpec : ChangeSpec := { name := "queueFirst", fn := fun _ => fun
  | [d1, d2] => { results := [.lit (.bool true)], args := [d1, d2] }
  | _ => none }
def queueFirstRow : OpenClaim := { program := "ytlfdbmndikdhdaa", sum := "181b4ba81108284f86aa41ba663880275fdd5b53f72aac10ce810e2e9ff9b5a7", func := "slotmesh/slotmeshlaw27.QueueFirst", spec := "queueFirst", unfollowed := true, recurses := true, apart := false }
def QueueFirstSaid : Prop := queueFirstRow.holds Try.pinned (OpenSpec.ofChange queueFirstSpec)

/-- ITS FALSE NEIGHBOUR: 'it returns false'. Refute it at one input. -/
def queueFirstWrong : ChangeSpec := { name := "queueFirst", fn := fun _ => fun
  | [d1, d2] => { results := [.lit (.bool false)], args := [d1, d2] }
  | _ => none }
def QueueFirstWrongFalsely : Prop := queueFirstRow.holds Try.pinned (OpenSpec.ofChange queueFirstWrong)

/-- 'slotmeshlaw27.QueueValid': WHATEVER THE INPUT: true; the input reads as it did. -/
def queueValidSpec : ChangeSpec := { name := "queueValid", fn := fun _ => fun
  | [d1, d2, d3, d4, d5] => { results := [.lit (.bool true)], args := [d1, d2, d3, d4, d5] }
  | _ => none }
def queueValidRow : OpenClaim := { program := "ytlfdbmndikdhdaa", sum := "181b4ba81108284f86aa41ba663880275fdd5b53f72aac10ce810e2e9ff9b5a7", func := "slotmesh/slotmeshlaw27.QueueValid", spec := "queueValid", unfollowed := true, recurses := true, apart := false }
def QueueValidSaid : Prop := queueValidRow.holds Try.pinned (OpenSpec.ofChange queueValidSpec)

/-- ITS FALSE NEIGHBOUR: 'it returns false'. Refute it at one input. -/
def queueValidWrong : ChangeSpec := { name := "queueValid", fn := fun _ => fun
  | [d1, d2, d3, d4, d5] => { results := [.lit (.bool false)], args := [d1, d2, d3, d4, d5] }
  | _ => none }
def QueueValidWrongFalsely : Prop := queueValidRow.holds Try.pinned (OpenSpec.ofChange queueValidWrong)

/-- 'slotmeshlaw27.QueuePlaces': WHATEVER THE INPUT: true; the input reads as it did. -/
def queuePlacesSpec : ChangeSpec := { name := "queuePlaces", fn := fun _ => fun
  | [d1, d2, d3] => { results := [.lit (.bool true)], args := [d1, d2, d3] }
  | _ => none }
def queuePlacesRow : OpenClaim := { program := "ytlfdbmndikdhdaa", sum := "181b4ba81108284f86aa41ba663880275fdd5b53f72aac10ce810e2e9ff9b5a7", func := "slotmesh/slotmeshlaw27.QueuePlaces", spec := "queuePlaces", unfollowed := true, recurses := true, apart := false }
def QueuePlacesSaid : Prop := queuePlacesRow.holds Try.pinned (OpenSpec.ofChange queuePlacesSpec)

/-- ITS FALSE NEIGHBOUR: 'it returns false'. Refute it at one input. -/
def queuePlacesWrong : ChangeSpec := { name := "queuePlaces", fn := fun _ => fun
  | [d1, d2, d3] => { results := [.lit (.bool false)], args := [d1, d2, d3] }
  | _ => none }
def QueuePlacesWrongFalsely : Prop := queuePlacesRow.holds Try.pinned (OpenSpec.ofChange queuePlacesWrong)

/-- 'slotmeshlaw27.QueueBack': WHATEVER THE INPUT: true; the input reads as it did. -/
def queueBackSpec : ChangeSpec := { name := "queueBack", fn := fun _ => fun
  | [d1, d2, d3] => { results := [.lit (.bool true)], args := [d1, d2, d3] }
  | _ => none }
def queueBackRow : OpenClaim := { program := "ytlfdbmndikdhdaa", sum := "181b4ba81108284f86aa41ba663880275fdd5b53f72aac10ce810e2e9ff9b5a7", func := "slotmesh/slotmeshlaw27.QueueBack", spec := "queueBack", unfollowed := true, recurses := true, apart := false }
def QueueBackSaid : Prop := queueBackRow.holds Try.pinned (OpenSpec.ofChange queueBackSpec)

/-- ITS FALSE NEIGHBOUR: 'it returns false'. Refute it at one input. -/
def queueBackWrong : ChangeSpec := { name := "queueBack", fn := fun _ => fun
  | [d1, d2, d3] => { results := [.lit (.bool false)], args := [d1, d2, d3] }
  | _ => none }
def QueueBackWrongFalsely : Prop := queueBackRow.holds Try.pinned (OpenSpec.ofChange queueBackWrong)

/-- 'slotmeshlaw27.QueueTwice': WHATEVER THE INPUT: true; the input reads as it did. -/
def queueTwiceSpec : ChangeSpec := { name := "queueTwice", fn := fun _ => fun
  | [d1, d2, d3, d4, d5] => { results := [.lit (.bool true)], args := [d1, d2, d3, d4, d5] }
  | _ => none }
def queueTwiceRow : OpenClaim := { program := "ytlfdbmndikdhdaa", sum := "181b4ba81108284f86aa41ba663880275fdd5b53f72aac10ce810e2e9ff9b5a7", func := "slotmesh/slotmeshlaw27.QueueTwice", spec := "queueTwice", unfollowed := true, recurses := true, apart := false }
def QueueTwiceSaid : Prop := queueTwiceRow.holds Try.pinned (OpenSpec.ofChange queueTwiceSpec)

/-- ITS FALSE NEIGHBOUR: 'it returns false'. Refute it at one input. -/
def queueTwiceWrong : ChangeSpec := { name := "queueTwice", fn := fun _ => fun
  | [d1, d2, d3, d4, d5] => { results := [.lit (.bool false)], args := [d1, d2, d3, d4, d5] }
  | _ => none }
def QueueTwiceWrongFalsely : Prop := queueTwiceRow.holds Try.pinned (OpenSpec.ofChange queueTwiceWrong)

/- THE SECOND FORM. 'bulk': how many values and letters a reading holds, each counted each time it is reached (what is shared counts as often as it is met; a slice's spare places count too). A statement '..UptoSaid' is the law's where the arguments, and the package variables that the reading takes, are together of bulk at most 1048576: NARROWER than '..Said'. Prove '..Said' where nothing that the law and all that it calls make is longer than what came in: it says more and counts as full. Else prove '..UptoSaid'. A law counts once. -/
mutual
def uptoBulk {H : Type} : DataW H → Nat
  | .lit (.string bytes) => bytes.length + 1
  | .lit _ => 1
  | .nil => 1
  | .ptr d => uptoBulk d + 1
  | .slice elems spare => uptoBulkAll elems + uptoBulkAll spare + 1
  | .agg parts => uptoBulkAll parts + 1
  | .iface _ d => uptoBulk d + 1
  | .map entries => uptoBulkEntries entries + 1
  | .held _ => 1
def uptoBulkAll {H : Type} : List (DataW H) → Nat
  | [] => 0
  | d :: r => uptoBulk d + uptoBulkAll r
def uptoBulkEntries {H : Type} : List (Lit × DataW H) → Nat
  | [] => 0
  | x :: r => uptoBulkEntry x + uptoBulkEntries r
def uptoBulkEntry {H : Type} : Lit × DataW H → Nat
  | (.string bytes, d) => bytes.length + uptoBulk d + 1
  | (_, d) => uptoBulk d + 1
 end
def uptoSmall : (H : Type) → List (DataW H) → Bool := fun _ ds => decide (uptoBulkAll ds ≤ 1048576)
def OpenSpec.upto (s : _root_.Go.ChangeSpec) : _root_.Go.OpenSpec := { _root_.Go.OpenSpec.ofChange s with cond := some uptoSmall }

/-- 'slotmeshlaw27.QueueMatchesReference', WHERE WHAT IT READS IS OF BULK AT MOST 1048576: true; the input reads as it did. -/
def queueMatchesReferenceUptoRow : OpenClaim := { program := "ytlfdbmndikdhdaa", sum := "181b4ba81108284f86aa41ba663880275fdd5b53f72aac10ce810e2e9ff9b5a7", func := "slotmesh/slotmeshlaw27.QueueMatchesReference", spec := "queueMatchesReference", unfollowed := true, recurses := true, apart := false, narrowed := true }
def QueueMatchesReferenceUptoSaid : Prop := queueMatchesReferenceUptoRow.holds Try.pinned (OpenSpec.upto queueMatchesReferenceSpec)

/-- 'slotmeshlaw27.QueueFirst', WHERE WHAT IT READS IS OF BULK AT MOST 1048576: true; the input reads as it did. -/
def queueFirstUptoRow : OpenClaim := { program := "ytlfdbmndikdhdaa", sum := "181b4ba81108284f86aa41ba663880275fdd5b53f72aac10ce810e2e9ff9b5a7", func := "slotmesh/slotmeshlaw27.QueueFirst", spec := "queueFirst", unfollowed := true, recurses := true, apart := false, narrowed := true }
def QueueFirstUptoSaid : Prop := queueFirstUptoRow.holds Try.pinned (OpenSpec.upto queueFirstSpec)

/-- 'slotmeshlaw27.QueueValid', WHERE WHAT IT READS IS OF BULK AT MOST 1048576: true; the input reads as it did. -/
def queueValidUptoRow : OpenClaim := { program := "ytlfdbmndikdhdaa", sum := "181b4ba81108284f86aa41ba663880275fdd5b53f72aac10ce810e2e9ff9b5a7", func := "slotmesh/slotmeshlaw27.QueueValid", spec := "queueValid", unfollowed := true, recurses := true, apart := false, narrowed := true }
def QueueValidUptoSaid : Prop := queueValidUptoRow.holds Try.pinned (OpenSpec.upto queueValidSpec)

/-- 'slotmeshlaw27.QueuePlaces', WHERE WHAT IT READS IS OF BULK AT MOST 1048576: true; the input reads as it did. -/
def queuePlacesUptoRow : OpenClaim := { program := "ytlfdbmndikdhdaa", sum := "181b4ba81108284f86aa41ba663880275fdd5b53f72aac10ce810e2e9ff9b5a7", func := "slotmesh/slotmeshlaw27.QueuePlaces", spec := "queuePlaces", unfollowed := true, recurses := true, apart := false, narrowed := true }
def QueuePlacesUptoSaid : Prop := queuePlacesUptoRow.holds Try.pinned (OpenSpec.upto queuePlacesSpec)

/-- 'slotmeshlaw27.QueueBack', WHERE WHAT IT READS IS OF BULK AT MOST 1048576: true; the input reads as it did. -/
def queueBackUptoRow : OpenClaim := { program := "ytlfdbmndikdhdaa", sum := "181b4ba81108284f86aa41ba663880275fdd5b53f72aac10ce810e2e9ff9b5a7", func := "slotmesh/slotmeshlaw27.QueueBack", spec := "queueBack", unfollowed := true, recurses := true, apart := false, narrowed := true }
def QueueBackUptoSaid : Prop := queueBackUptoRow.holds Try.pinned (OpenSpec.upto queueBackSpec)

/-- 'slotmeshlaw27.QueueTwice', WHERE WHAT IT READS IS OF BULK AT MOST 1048576: true; the input reads as it did. -/
def queueTwiceUptoRow : OpenClaim := { program := "ytlfdbmndikdhdaa", sum := "181b4ba81108284f86aa41ba663880275fdd5b53f72aac10ce810e2e9ff9b5a7", func := "slotmesh/slotmeshlaw27.QueueTwice", spec := "queueTwice", unfollowed := true, recurses := true, apart := false, narrowed := true }
def QueueTwiceUptoSaid : Prop := queueTwiceUptoRow.holds Try.pinned (OpenSpec.upto queueTwiceSpec)

end Rows
end Go.Proofs.Ytlfdbmndikdhdaa
