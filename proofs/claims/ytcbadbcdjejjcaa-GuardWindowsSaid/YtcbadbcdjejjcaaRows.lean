/-
  No cell of these rows narrows 'for every input' (looked for: loops, veiled, ifaces, maps, wideKeys, modest, calm, conditions, laid).
  DERIVED. THE GIVEN ROWS OF THIS SEAT. 7 by the template 'for every input the law returns true; each argument reads behind the call as it read before'; 0 by the template 'total and deterministic' (their statements: YtcbadbcdjejjcaaTotals.lean).
  GIVEN WITH THE SEED: the statements are not yours to turn. If you find one false, say at which input.
  Laid BY PROGRAM, IN A SANDBOX (cutbox-rows.mjs): the forced cells as the released guide's own fill.sh prints them over the translation 20a6501bd0d03b6a… (all of the seat's roots in one cut). By AI agents, Wed Nov 11 2026. No macro, syntax, notation, axiom, sorry.
-/
import Derived.Test.YtcbadbcdjejjcaaChecked
import GoSem.Claim
import GoSem.ClaimJoined
import GoSem.ClaimMapViews
import Derived.JoinedTies
import Derived.KernelRfl
namespace Go.Proofs.Ytcbadbcdjejjcaa
/- THE CELL 'sum', in the pinned program and in every row, IS THE sha256 OF THE DUMP (.gsa) THAT YtcbadbcdjejjcaaProg.lean LOADS. Nothing in Lean hashes anything: it is a label: what it is worth is what the hold of that sum in a sandbox is worth. -/
noncomputable def Try.pinned : Pinned := { name := "ytcbadbcdjejjcaa", sum := "20a6501bd0d03b6aa344695873821a4cbe168f9a6458655ec0394e4e221bd88a", checked := Try.checked }
namespace Rows
def none {H : Type} : Left H := { results := [], args := [] }

/-- 'slotmeshlaw10.GuardMatchesReference': WHATEVER THE INPUT: true; the input reads as it did. -/
def guardMatchesReferenceSpec : ChangeSpec := { name := "guardMatchesReference", fn := fun _ => fun
  | [d1, d2, d3, d4, d5] => { results := [.lit (.bool true)], args := [d1, d2, d3, d4, d5] }
  | _ => none }
def guardMatchesReferenceRow : OpenClaim := { program := "ytcbadbcdjejjcaa", sum := "20a6501bd0d03b6aa344695873821a4cbe168f9a6458655ec0394e4e221bd88a", func := "slotmesh/slotmeshlaw10.GuardMatchesReference", spec := "guardMatchesReference", inPlace := ["internal/reflectlite.TypeOf"], unfollowed := true, recurses := true, apart := false }
def GuardMatchesReferenceSaid : Prop := guardMatchesReferenceRow.holds Try.pinned (OpenSpec.ofChange guardMatchesReferenceSpec)

/-- ITS FALSE NEIGHBOUR: 'it returns false'. Refute it at one input. -/
def guardMatchesReferenceWrong : ChangeSpec := { name := "guardMatchesReference", fn := fun _ => fun
  | [d1, d2, d3, d4, d5] => { results := [.lit (.bool false)], args := [d1, d2, d3, d4, d5] }
  | _ => none }
def GuardMatchesReferenceWrongFalsely : Prop := guardMatchesReferenceRow.holds Try.pinned (OpenSpec.ofChange guardMatchesReferenceWrong)

/-- 'slotmeshlaw10.GuardOnTime': WHATEVER THE INPUT: true; the input reads as it did. -/
def guardOnTimeSpec : ChangeSpec := { name := "guardOnTime", fn := fun _ => fun
  | [d1, d2, d3, d4] => { results := [.lit (.bool true)], args := [d1, d2, d3, d4] }
  | _ => none }
def guardOnTimeRow : OpenClaim := { program := "ytcbadbcdjejjcaa", sum := "20a6501bd0d03b6aa344695873821a4cbe168f9a6458655ec0394e4e221bd88a", func := "slotmesh/slotmeshlaw10.GuardOnTime", spec := "guardOnTime", inPlace := ["internal/reflectlite.TypeOf"], unfollowed := true, recurses := true, apart := false }
def GuardOnTimeSaid : Prop := guardOnTimeRow.holds Try.pinned (OpenSpec.ofChange guardOnTimeSpec)

/-- ITS FALSE NEIGHBOUR: 'it returns false'. Refute it at one input. -/
def guardOnTimeWrong : ChangeSpec := { name := "guardOnTime", fn := fun _ => fun
  | [d1, d2, d3, d4] => { results := [.lit (.bool false)], args := [d1, d2, d3, d4] }
  | _ => none }
def GuardOnTimeWrongFalsely : Prop := guardOnTimeRow.holds Try.pinned (OpenSpec.ofChange guardOnTimeWrong)

/-- 'slotmeshlaw10.GuardCaught': WHATEVER THE INPUT: true; the input reads as it did. -/
def guardCaughtSpec : ChangeSpec := { name := "guardCaught", fn := fun _ => fun
  | [d1, d2, d3, d4, d5, d6, d7] => { results := [.lit (.bool true)], args := [d1, d2, d3, d4, d5, d6, d7] }
  | _ => none }
def guardCaughtRow : OpenClaim := { program := "ytcbadbcdjejjcaa", sum := "20a6501bd0d03b6aa344695873821a4cbe168f9a6458655ec0394e4e221bd88a", func := "slotmesh/slotmeshlaw10.GuardCaught", spec := "guardCaught", inPlace := ["internal/reflectlite.TypeOf"], unfollowed := true, recurses := true, apart := false }
def GuardCaughtSaid : Prop := guardCaughtRow.holds Try.pinned (OpenSpec.ofChange guardCaughtSpec)

/-- ITS FALSE NEIGHBOUR: 'it returns false'. Refute it at one input. -/
def guardCaughtWrong : ChangeSpec := { name := "guardCaught", fn := fun _ => fun
  | [d1, d2, d3, d4, d5, d6, d7] => { results := [.lit (.bool false)], args := [d1, d2, d3, d4, d5, d6, d7] }
  | _ => none }
def GuardCaughtWrongFalsely : Prop := guardCaughtRow.holds Try.pinned (OpenSpec.ofChange guardCaughtWrong)

/-- 'slotmeshlaw10.GuardNoOverlaps': WHATEVER THE INPUT: true; the input reads as it did. -/
def guardNoOverlapsSpec : ChangeSpec := { name := "guardNoOverlaps", fn := fun _ => fun
  | [d1, d2, d3, d4, d5, d6, d7] => { results := [.lit (.bool true)], args := [d1, d2, d3, d4, d5, d6, d7] }
  | _ => none }
def guardNoOverlapsRow : OpenClaim := { program := "ytcbadbcdjejjcaa", sum := "20a6501bd0d03b6aa344695873821a4cbe168f9a6458655ec0394e4e221bd88a", func := "slotmesh/slotmeshlaw10.GuardNoOverlaps", spec := "guardNoOverlaps", inPlace := ["internal/reflectlite.TypeOf"], unfollowed := true, recurses := true, apart := false }
def GuardNoOverlapsSaid : Prop := guardNoOverlapsRow.holds Try.pinned (OpenSpec.ofChange guardNoOverlapsSpec)

/-- ITS FALSE NEIGHBOUR: 'it returns false'. Refute it at one input. -/
def guardNoOverlapsWrong : ChangeSpec := { name := "guardNoOverlaps", fn := fun _ => fun
  | [d1, d2, d3, d4, d5, d6, d7] => { results := [.lit (.bool false)], args := [d1, d2, d3, d4, d5, d6, d7] }
  | _ => none }
def GuardNoOverlapsWrongFalsely : Prop := guardNoOverlapsRow.holds Try.pinned (OpenSpec.ofChange guardNoOverlapsWrong)

/-- 'slotmeshlaw10.GuardWindows': WHATEVER THE INPUT: true; the input reads as it did. -/
def guardWindowsSpec : ChangeSpec := { name := "guardWindows", fn := fun _ => fun
  | [d1, d2, d3, d4] => { results := [.lit (.bool true)], args := [d1, d2, d3, d4] }
  | _ => none }
def guardWindowsRow : OpenClaim := { program := "ytcbadbcdjejjcaa", sum := "20a6501bd0d03b6aa344695873821a4cbe168f9a6458655ec0394e4e221bd88a", func := "slotmesh/slotmeshlaw10.GuardWindows", spec := "guardWindows", inPlace := ["internal/reflectlite.TypeOf"], unfollowed := true, recurses := true, apart := false }
def GuardWindowsSaid : Prop := guardWindowsRow.holds Try.pinned (OpenSpec.ofChange guardWindowsSpec)

/-- ITS FALSE NEIGHBOUR: 'it returns false'. Refute it at one input. -/
def guardWindowsWrong : ChangeSpec := { name := "guardWindows", fn := fun _ => fun
  | [d1, d2, d3, d4] => { results := [.lit (.bool false)], args := [d1, d2, d3, d4] }
  | _ => none }
def GuardWindowsWrongFalsely : Prop := guardWindowsRow.holds Try.pinned (OpenSpec.ofChange guardWindowsWrong)

/-- 'slotmeshlaw10.GuardSlots': WHATEVER THE INPUT: true; the input reads as it did. -/
def guardSlotsSpec : ChangeSpec := { name := "guardSlots", fn := fun _ => fun
  | [d1, d2, d3] => { results := [.lit (.bool true)], args := [d1, d2, d3] }
  | _ => none }
def guardSlotsRow : OpenClaim := { program := "ytcbadbcdjejjcaa", sum := "20a6501bd0d03b6aa344695873821a4cbe168f9a6458655ec0394e4e221bd88a", func := "slotmesh/slotmeshlaw10.GuardSlots", spec := "guardSlots", inPlace := ["internal/reflectlite.TypeOf"], unfollowed := true, recurses := true, apart := false }
def GuardSlotsSaid : Prop := guardSlotsRow.holds Try.pinned (OpenSpec.ofChange guardSlotsSpec)

/-- ITS FALSE NEIGHBOUR: 'it returns false'. Refute it at one input. -/
def guardSlotsWrong : ChangeSpec := { name := "guardSlots", fn := fun _ => fun
  | [d1, d2, d3] => { results := [.lit (.bool false)], args := [d1, d2, d3] }
  | _ => none }
def GuardSlotsWrongFalsely : Prop := guardSlotsRow.holds Try.pinned (OpenSpec.ofChange guardSlotsWrong)

/-- 'slotmeshlaw10.GuardRoot': WHATEVER THE INPUT: true; the input reads as it did. -/
def guardRootSpec : ChangeSpec := { name := "guardRoot", fn := fun _ => fun
  | [d] => { results := [.lit (.bool true)], args := [d] }
  | _ => none }
def guardRootRow : OpenClaim := { program := "ytcbadbcdjejjcaa", sum := "20a6501bd0d03b6aa344695873821a4cbe168f9a6458655ec0394e4e221bd88a", func := "slotmesh/slotmeshlaw10.GuardRoot", spec := "guardRoot", inPlace := ["internal/reflectlite.TypeOf"], unfollowed := true, recurses := true, apart := false }
def GuardRootSaid : Prop := guardRootRow.holds Try.pinned (OpenSpec.ofChange guardRootSpec)

/-- ITS FALSE NEIGHBOUR: 'it returns false'. Refute it at one input. -/
def guardRootWrong : ChangeSpec := { name := "guardRoot", fn := fun _ => fun
  | [d] => { results := [.lit (.bool false)], args := [d] }
  | _ => none }
def GuardRootWrongFalsely : Prop := guardRootRow.holds Try.pinned (OpenSpec.ofChange guardRootWrong)

/- THE SECOND FORM. 'bulk': how many values and letters a reading holds, each counted each time it is reached (what is shared counts as often as it is met; a slice's spare places count too). A statement '..UptoSaid' is the law's where the arguments, and the package variables that the reading takes, are together of bulk at most 1048576: NARROWER than '..Said'. Prove '..Said' where nothing that the law and all that it calls make is longer than what came in: it says more and counts as full. Else prove '..UptoSaid'. A law counts once. -/
mutual
def uptoBulk {H : Type} : DataW H → Nat
  | .lit (.string bytes) => bytes.length + 1
  | .lit _ => 1
  | .nil => 1
  | .ptr d => uptoBulk d + 1
  | .slice elems spare => uptoBulkAll elems + uptoBulkAll spare + 1
  | .agg parts => uptoBulkAll parts + 1
  | .iface _ d => uptoBulk d + 1
  | .map entries => uptoBulkEntries entries + 1
  | .held _ => 1
def uptoBulkAll {H : Type} : List (DataW H) → Nat
  | [] => 0
  | d :: r => uptoBulk d + uptoBulkAll r
def uptoBulkEntries {H : Type} : List (Lit × DataW H) → Nat
  | [] => 0
  | x :: r => uptoBulkEntry x + uptoBulkEntries r
def uptoBulkEntry {H : Type} : Lit × DataW H → Nat
  | (.string bytes, d) => bytes.length + uptoBulk d + 1
  | (_, d) => uptoBulk d + 1
 end
def uptoSmall : (H : Type) → List (DataW H) → Bool := fun _ ds => decide (uptoBulkAll ds ≤ 1048576)
def OpenSpec.upto (s : _root_.Go.ChangeSpec) : _root_.Go.OpenSpec := { _root_.Go.OpenSpec.ofChange s with cond := some uptoSmall }

/-- 'slotmeshlaw10.GuardMatchesReference', WHERE WHAT IT READS IS OF BULK AT MOST 1048576: true; the input reads as it did. -/
def guardMatchesReferenceUptoRow : OpenClaim := { program := "ytcbadbcdjejjcaa", sum := "20a6501bd0d03b6aa344695873821a4cbe168f9a6458655ec0394e4e221bd88a", func := "slotmesh/slotmeshlaw10.GuardMatchesReference", spec := "guardMatchesReference", inPlace := ["internal/reflectlite.TypeOf"], unfollowed := true, recurses := true, apart := false, narrowed := true }
def GuardMatchesReferenceUptoSaid : Prop := guardMatchesReferenceUptoRow.holds Try.pinned (OpenSpec.upto guardMatchesReferenceSpec)

/-- 'slotmeshlaw10.GuardOnTime', WHERE WHAT IT READS IS OF BULK AT MOST 1048576: true; the input reads as it did. -/
def guardOnTimeUptoRow : OpenClaim := { program := "ytcbadbcdjejjcaa", sum := "20a6501bd0d03b6aa344695873821a4cbe168f9a6458655ec0394e4e221bd88a", func := "slotmesh/slotmeshlaw10.GuardOnTime", spec := "guardOnTime", inPlace := ["internal/reflectlite.TypeOf"], unfollowed := true, recurses := true, apart := false, narrowed := true }
def GuardOnTimeUptoSaid : Prop := guardOnTimeUptoRow.holds Try.pinned (OpenSpec.upto guardOnTimeSpec)

/-- 'slotmeshlaw10.GuardCaught', WHERE WHAT IT READS IS OF BULK AT MOST 1048576: true; the input reads as it did. -/
def guardCaughtUptoRow : OpenClaim := { program := "ytcbadbcdjejjcaa", sum := "20a6501bd0d03b6aa344695873821a4cbe168f9a6458655ec0394e4e221bd88a", func := "slotmesh/slotmeshlaw10.GuardCaught", spec := "guardCaught", inPlace := ["internal/reflectlite.TypeOf"], unfollowed := true, recurses := true, apart := false, narrowed := true }
def GuardCaughtUptoSaid : Prop := guardCaughtUptoRow.holds Try.pinned (OpenSpec.upto guardCaughtSpec)

/-- 'slotmeshlaw10.GuardNoOverlaps', WHERE WHAT IT READS IS OF BULK AT MOST 1048576: true; the input reads as it did. -/
def guardNoOverlapsUptoRow : OpenClaim := { program := "ytcbadbcdjejjcaa", sum := "20a6501bd0d03b6aa344695873821a4cbe168f9a6458655ec0394e4e221bd88a", func := "slotmesh/slotmeshlaw10.GuardNoOverlaps", spec := "guardNoOverlaps", inPlace := ["internal/reflectlite.TypeOf"], unfollowed := true, recurses := true, apart := false, narrowed := true }
def GuardNoOverlapsUptoSaid : Prop := guardNoOverlapsUptoRow.holds Try.pinned (OpenSpec.upto guardNoOverlapsSpec)

/-- 'slotmeshlaw10.GuardWindows', WHERE WHAT IT READS IS OF BULK AT MOST 1048576: true; the input reads as it did. -/
def guardWindowsUptoRow : OpenClaim := { program := "ytcbadbcdjejjcaa", sum := "20a6501bd0d03b6aa344695873821a4cbe168f9a6458655ec0394e4e221bd88a", func := "slotmesh/slotmeshlaw10.GuardWindows", spec := "guardWindows", inPlace := ["internal/reflectlite.TypeOf"], unfollowed := true, recurses := true, apart := false, narrowed := true }
def GuardWindowsUptoSaid : Prop := guardWindowsUptoRow.holds Try.pinned (OpenSpec.upto guardWindowsSpec)

/-- 'slotmeshlaw10.GuardSlots', WHERE WHAT IT READS IS OF BULK AT MOST 1048576: true; the input reads as it did. -/
def guardSlotsUptoRow : OpenClaim := { program := "ytcbadbcdjejjcaa", sum := "20a6501bd0d03b6aa344695873821a4cbe168f9a6458655ec0394e4e221bd88a", func := "slotmesh/slotmeshlaw10.GuardSlots", spec := "guardSlots", inPlace := ["internal/reflectlite.TypeOf"], unfollowed := true, recurses := true, apart := false, narrowed := true }
def GuardSlotsUptoSaid : Prop := guardSlotsUptoRow.holds Try.pinned (OpenSpec.upto guardSlotsSpec)

/-- 'slotmeshlaw10.GuardRoot', WHERE WHAT IT READS IS OF BULK AT MOST 1048576: true; the input reads as it did. -/
def guardRootUptoRow : OpenClaim := { program := "ytcbadbcdjejjcaa", sum := "20a6501bd0d03b6aa344695873821a4cbe168f9a6458655ec0394e4e221bd88a", func := "slotmesh/slotmeshlaw10.GuardRoot", spec := "guardRoot", inPlace := ["internal/reflectlite.TypeOf"], unfollowed := true, recurses := true, apart := false, narrowed := true }
def GuardRootUptoSaid : Prop := guardRootUptoRow.holds Try.pinned (OpenSpec.upto guardRootSpec)

end Rows
end Go.Proofs.Ytcbadbcdjejjcaa
