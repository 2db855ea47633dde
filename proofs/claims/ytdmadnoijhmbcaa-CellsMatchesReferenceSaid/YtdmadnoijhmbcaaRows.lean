/-
  No cell of these rows narrows 'for every input' (looked for: loops, veiled, ifaces, maps, wideKeys, modest, calm, conditions, laid).
  DERIVED. THE GIVEN ROWS OF THIS SEAT. 7 by the template 'for every input the law returns true; each argument reads behind the call as it read before'; 0 by the template 'total and deterministic' (their statements: YtdmadnoijhmbcaaTotals.lean).
  GIVEN WITH THE SEED: the statements are not yours to turn. If you find one false, say at which input.
  Laid BY PROGRAM, IN A SANDBOX (cutbox-rows.mjs): the forced cells as the released guide's own fill.sh prints them over the translation f3eec74d481a7b2c… (all of the seat's roots in one cut). By AI agents, Wed Nov 11 2026. No macro, syntax, notation, axiom, sorry.
-/
import Derived.Test.YtdmadnoijhmbcaaChecked
import GoSem.Claim
import GoSem.ClaimJoined
import GoSem.ClaimMapViews
import Derived.JoinedTies
import Derived.KernelRfl
namespace Go.Proofs.Ytdmadnoijhmbcaa
/- THE CELL 'sum', in the pinned program and in every row, IS THE sha256 OF THE DUMP (.gsa) THAT YtdmadnoijhmbcaaProg.lean LOADS. Nothing in Lean hashes anything: it is a label: what it is worth is what the hold of that sum in a sandbox is worth. -/
noncomputable def Try.pinned : Pinned := { name := "ytdmadnoijhmbcaa", sum := "f3eec74d481a7b2ccc41f8f905dca3c2707139666fd5eabf042a3ae9f89e89e5", checked := Try.checked }
namespace Rows
def none {H : Type} : Left H := { results := [], args := [] }

/-- 'slotmeshlaw12.CellsMatchesReference': WHATEVER THE INPUT: true; the input reads as it did. -/
def cellsMatchesReferenceSpec : ChangeSpec := { name := "cellsMatchesReference", fn := fun _ => fun
  | [d1, d2, d3, d4, d5, d6] => { results := [.lit (.bool true)], args := [d1, d2, d3, d4, d5, d6] }
  | _ => none }
def cellsMatchesReferenceRow : OpenClaim := { program := "ytdmadnoijhmbcaa", sum := "f3eec74d481a7b2ccc41f8f905dca3c2707139666fd5eabf042a3ae9f89e89e5", func := "slotmesh/slotmeshlaw12.CellsMatchesReference", spec := "cellsMatchesReference", unfollowed := true, recurses := true, apart := false }
def CellsMatchesReferenceSaid : Prop := cellsMatchesReferenceRow.holds Try.pinned (OpenSpec.ofChange cellsMatchesReferenceSpec)

/-- ITS FALSE NEIGHBOUR: 'it returns false'. Refute it at one input. -/
def cellsMatchesReferenceWrong : ChangeSpec := { name := "cellsMatchesReference", fn := fun _ => fun
  | [d1, d2, d3, d4, d5, d6] => { results := [.lit (.bool false)], args := [d1, d2, d3, d4, d5, d6] }
  | _ => none }
def CellsMatchesReferenceWrongFalsely : Prop := cellsMatchesReferenceRow.holds Try.pinned (OpenSpec.ofChange cellsMatchesReferenceWrong)

/-- 'slotmeshlaw12.CellsValid': WHATEVER THE INPUT: true; the input reads as it did. -/
def cellsValidSpec : ChangeSpec := { name := "cellsValid", fn := fun _ => fun
  | [d1, d2, d3, d4, d5] => { results := [.lit (.bool true)], args := [d1, d2, d3, d4, d5] }
  | _ => none }
def cellsValidRow : OpenClaim := { program := "ytdmadnoijhmbcaa", sum := "f3eec74d481a7b2ccc41f8f905dca3c2707139666fd5eabf042a3ae9f89e89e5", func := "slotmesh/slotmeshlaw12.CellsValid", spec := "cellsValid", unfollowed := true, recurses := true, apart := false }
def CellsValidSaid : Prop := cellsValidRow.holds Try.pinned (OpenSpec.ofChange cellsValidSpec)

/-- ITS FALSE NEIGHBOUR: 'it returns false'. Refute it at one input. -/
def cellsValidWrong : ChangeSpec := { name := "cellsValid", fn := fun _ => fun
  | [d1, d2, d3, d4, d5] => { results := [.lit (.bool false)], args := [d1, d2, d3, d4, d5] }
  | _ => none }
def CellsValidWrongFalsely : Prop := cellsValidRow.holds Try.pinned (OpenSpec.ofChange cellsValidWrong)

/-- 'slotmeshlaw12.CellsOnce': WHATEVER THE INPUT: true; the input reads as it did. -/
def cellsOnceSpec : ChangeSpec := { name := "cellsOnce", fn := fun _ => fun
  | [d1, d2, d3] => { results := [.lit (.bool true)], args := [d1, d2, d3] }
  | _ => none }
def cellsOnceRow : OpenClaim := { program := "ytdmadnoijhmbcaa", sum := "f3eec74d481a7b2ccc41f8f905dca3c2707139666fd5eabf042a3ae9f89e89e5", func := "slotmesh/slotmeshlaw12.CellsOnce", spec := "cellsOnce", unfollowed := true, recurses := true, apart := false }
def CellsOnceSaid : Prop := cellsOnceRow.holds Try.pinned (OpenSpec.ofChange cellsOnceSpec)

/-- ITS FALSE NEIGHBOUR: 'it returns false'. Refute it at one input. -/
def cellsOnceWrong : ChangeSpec := { name := "cellsOnce", fn := fun _ => fun
  | [d1, d2, d3] => { results := [.lit (.bool false)], args := [d1, d2, d3] }
  | _ => none }
def CellsOnceWrongFalsely : Prop := cellsOnceRow.holds Try.pinned (OpenSpec.ofChange cellsOnceWrong)

/-- 'slotmeshlaw12.CellsOrder': WHATEVER THE INPUT: true; the input reads as it did. -/
def cellsOrderSpec : ChangeSpec := { name := "cellsOrder", fn := fun _ => fun
  | [d1, d2, d3, d4] => { results := [.lit (.bool true)], args := [d1, d2, d3, d4] }
  | _ => none }
def cellsOrderRow : OpenClaim := { program := "ytdmadnoijhmbcaa", sum := "f3eec74d481a7b2ccc41f8f905dca3c2707139666fd5eabf042a3ae9f89e89e5", func := "slotmesh/slotmeshlaw12.CellsOrder", spec := "cellsOrder", unfollowed := true, recurses := true, apart := false }
def CellsOrderSaid : Prop := cellsOrderRow.holds Try.pinned (OpenSpec.ofChange cellsOrderSpec)

/-- ITS FALSE NEIGHBOUR: 'it returns false'. Refute it at one input. -/
def cellsOrderWrong : ChangeSpec := { name := "cellsOrder", fn := fun _ => fun
  | [d1, d2, d3, d4] => { results := [.lit (.bool false)], args := [d1, d2, d3, d4] }
  | _ => none }
def CellsOrderWrongFalsely : Prop := cellsOrderRow.holds Try.pinned (OpenSpec.ofChange cellsOrderWrong)

/-- 'slotmeshlaw12.CellsBack': WHATEVER THE INPUT: true; the input reads as it did. -/
def cellsBackSpec : ChangeSpec := { name := "cellsBack", fn := fun _ => fun
  | [d1, d2, d3] => { results := [.lit (.bool true)], args := [d1, d2, d3] }
  | _ => none }
def cellsBackRow : OpenClaim := { program := "ytdmadnoijhmbcaa", sum := "f3eec74d481a7b2ccc41f8f905dca3c2707139666fd5eabf042a3ae9f89e89e5", func := "slotmesh/slotmeshlaw12.CellsBack", spec := "cellsBack", unfollowed := true, recurses := true, apart := false }
def CellsBackSaid : Prop := cellsBackRow.holds Try.pinned (OpenSpec.ofChange cellsBackSpec)

/-- ITS FALSE NEIGHBOUR: 'it returns false'. Refute it at one input. -/
def cellsBackWrong : ChangeSpec := { name := "cellsBack", fn := fun _ => fun
  | [d1, d2, d3] => { results := [.lit (.bool false)], args := [d1, d2, d3] }
  | _ => none }
def CellsBackWrongFalsely : Prop := cellsBackRow.holds Try.pinned (OpenSpec.ofChange cellsBackWrong)

/-- 'slotmeshlaw12.CellsTime': WHATEVER THE INPUT: true; the input reads as it did. -/
def cellsTimeSpec : ChangeSpec := { name := "cellsTime", fn := fun _ => fun
  | [d1, d2, d3] => { results := [.lit (.bool true)], args := [d1, d2, d3] }
  | _ => none }
def cellsTimeRow : OpenClaim := { program := "ytdmadnoijhmbcaa", sum := "f3eec74d481a7b2ccc41f8f905dca3c2707139666fd5eabf042a3ae9f89e89e5", func := "slotmesh/slotmeshlaw12.CellsTime", spec := "cellsTime", unfollowed := true, recurses := true, apart := false }
def CellsTimeSaid : Prop := cellsTimeRow.holds Try.pinned (OpenSpec.ofChange cellsTimeSpec)

/-- ITS FALSE NEIGHBOUR: 'it returns false'. Refute it at one input. -/
def cellsTimeWrong : ChangeSpec := { name := "cellsTime", fn := fun _ => fun
  | [d1, d2, d3] => { results := [.lit (.bool false)], args := [d1, d2, d3] }
  | _ => none }
def CellsTimeWrongFalsely : Prop := cellsTimeRow.holds Try.pinned (OpenSpec.ofChange cellsTimeWrong)

/-- 'slotmeshlaw12.CellsRoom': WHATEVER THE INPUT: true; the input reads as it did. -/
def cellsRoomSpec : ChangeSpec := { name := "cellsRoom", fn := fun _ => fun
  | [d1, d2, d3, d4] => { results := [.lit (.bool true)], args := [d1, d2, d3, d4] }
  | _ => none }
def cellsRoomRow : OpenClaim := { program := "ytdmadnoijhmbcaa", sum := "f3eec74d481a7b2ccc41f8f905dca3c2707139666fd5eabf042a3ae9f89e89e5", func := "slotmesh/slotmeshlaw12.CellsRoom", spec := "cellsRoom", unfollowed := true, recurses := true, apart := false }
def CellsRoomSaid : Prop := cellsRoomRow.holds Try.pinned (OpenSpec.ofChange cellsRoomSpec)

/-- ITS FALSE NEIGHBOUR: 'it returns false'. Refute it at one input. -/
def cellsRoomWrong : ChangeSpec := { name := "cellsRoom", fn := fun _ => fun
  | [d1, d2, d3, d4] => { results := [.lit (.bool false)], args := [d1, d2, d3, d4] }
  | _ => none }
def CellsRoomWrongFalsely : Prop := cellsRoomRow.holds Try.pinned (OpenSpec.ofChange cellsRoomWrong)

/- THE SECOND FORM. 'bulk': how many values and letters a reading holds, each counted each time it is reached (what is shared counts as often as it is met; a slice's spare places count too). A statement '..UptoSaid' is the law's where the arguments, and the package variables that the reading takes, are together of bulk at most 1048576: NARROWER than '..Said'. Prove '..Said' where nothing that the law and all that it calls make is longer than what came in: it says more and counts as full. Else prove '..UptoSaid'. A law counts once. -/
mutual
def uptoBulk {H : Type} : DataW H → Nat
  | .lit (.string bytes) => bytes.length + 1
  | .lit _ => 1
  | .nil => 1
  | .ptr d => uptoBulk d + 1
  | .slice elems spare => uptoBulkAll elems + uptoBulkAll spare + 1
  | .agg parts => uptoBulkAll parts + 1
  | .iface _ d => uptoBulk d + 1
  | .map entries => uptoBulkEntries entries + 1
  | .held _ => 1
def uptoBulkAll {H : Type} : List (DataW H) → Nat
  | [] => 0
  | d :: r => uptoBulk d + uptoBulkAll r
def uptoBulkEntries {H : Type} : List (Lit × DataW H) → Nat
  | [] => 0
  | x :: r => uptoBulkEntry x + uptoBulkEntries r
def uptoBulkEntry {H : Type} : Lit × DataW H → Nat
  | (.string bytes, d) => bytes.length + uptoBulk d + 1
  | (_, d) => uptoBulk d + 1
 end
def uptoSmall : (H : Type) → List (DataW H) → Bool := fun _ ds => decide (uptoBulkAll ds ≤ 1048576)
def OpenSpec.upto (s : _root_.Go.ChangeSpec) : _root_.Go.OpenSpec := { _root_.Go.OpenSpec.ofChange s with cond := some uptoSmall }

/-- 'slotmeshlaw12.CellsMatchesReference', WHERE WHAT IT READS IS OF BULK AT MOST 1048576: true; the input reads as it did. -/
def cellsMatchesReferenceUptoRow : OpenClaim := { program := "ytdmadnoijhmbcaa", sum := "f3eec74d481a7b2ccc41f8f905dca3c2707139666fd5eabf042a3ae9f89e89e5", func := "slotmesh/slotmeshlaw12.CellsMatchesReference", spec := "cellsMatchesReference", unfollowed := true, recurses := true, apart := false, narrowed := true }
def CellsMatchesReferenceUptoSaid : Prop := cellsMatchesReferenceUptoRow.holds Try.pinned (OpenSpec.upto cellsMatchesReferenceSpec)

/-- 'slotmeshlaw12.CellsValid', WHERE WHAT IT READS IS OF BULK AT MOST 1048576: true; the input reads as it did. -/
def cellsValidUptoRow : OpenClaim := { program := "ytdmadnoijhmbcaa", sum := "f3eec74d481a7b2ccc41f8f905dca3c2707139666fd5eabf042a3ae9f89e89e5", func := "slotmesh/slotmeshlaw12.CellsValid", spec := "cellsValid", unfollowed := true, recurses := true, apart := false, narrowed := true }
def CellsValidUptoSaid : Prop := cellsValidUptoRow.holds Try.pinned (OpenSpec.upto cellsValidSpec)

/-- 'slotmeshlaw12.CellsOnce', WHERE WHAT IT READS IS OF BULK AT MOST 1048576: true; the input reads as it did. -/
def cellsOnceUptoRow : OpenClaim := { program := "ytdmadnoijhmbcaa", sum := "f3eec74d481a7b2ccc41f8f905dca3c2707139666fd5eabf042a3ae9f89e89e5", func := "slotmesh/slotmeshlaw12.CellsOnce", spec := "cellsOnce", unfollowed := true, recurses := true, apart := false, narrowed := true }
def CellsOnceUptoSaid : Prop := cellsOnceUptoRow.holds Try.pinned (OpenSpec.upto cellsOnceSpec)

/-- 'slotmeshlaw12.CellsOrder', WHERE WHAT IT READS IS OF BULK AT MOST 1048576: true; the input reads as it did. -/
def cellsOrderUptoRow : OpenClaim := { program := "ytdmadnoijhmbcaa", sum := "f3eec74d481a7b2ccc41f8f905dca3c2707139666fd5eabf042a3ae9f89e89e5", func := "slotmesh/slotmeshlaw12.CellsOrder", spec := "cellsOrder", unfollowed := true, recurses := true, apart := false, narrowed := true }
def CellsOrderUptoSaid : Prop := cellsOrderUptoRow.holds Try.pinned (OpenSpec.upto cellsOrderSpec)

/-- 'slotmeshlaw12.CellsBack', WHERE WHAT IT READS IS OF BULK AT MOST 1048576: true; the input reads as it did. -/
def cellsBackUptoRow : OpenClaim := { program := "ytdmadnoijhmbcaa", sum := "f3eec74d481a7b2ccc41f8f905dca3c2707139666fd5eabf042a3ae9f89e89e5", func := "slotmesh/slotmeshlaw12.CellsBack", spec := "cellsBack", unfollowed := true, recurses := true, apart := false, narrowed := true }
def CellsBackUptoSaid : Prop := cellsBackUptoRow.holds Try.pinned (OpenSpec.upto cellsBackSpec)

/-- 'slotmeshlaw12.CellsTime', WHERE WHAT IT READS IS OF BULK AT MOST 1048576: true; the input reads as it did. -/
def cellsTimeUptoRow : OpenClaim := { program := "ytdmadnoijhmbcaa", sum := "f3eec74d481a7b2ccc41f8f905dca3c2707139666fd5eabf042a3ae9f89e89e5", func := "slotmesh/slotmeshlaw12.CellsTime", spec := "cellsTime", unfollowed := true, recurses := true, apart := false, narrowed := true }
def CellsTimeUptoSaid : Prop := cellsTimeUptoRow.holds Try.pinned (OpenSpec.upto cellsTimeSpec)

/-- 'slotmeshlaw12.CellsRoom', WHERE WHAT IT READS IS OF BULK AT MOST 1048576: true; the input reads as it did. -/
def cellsRoomUptoRow : OpenClaim := { program := "ytdmadnoijhmbcaa", sum := "f3eec74d481a7b2ccc41f8f905dca3c2707139666fd5eabf042a3ae9f89e89e5", func := "slotmesh/slotmeshlaw12.CellsRoom", spec := "cellsRoom", unfollowed := true, recurses := true, apart := false, narrowed := true }
def CellsRoomUptoSaid : Prop := cellsRoomUptoRow.holds Try.pinned (OpenSpec.upto cellsRoomSpec)

end Rows
end Go.Proofs.Ytdmadnoijhmbcaa
