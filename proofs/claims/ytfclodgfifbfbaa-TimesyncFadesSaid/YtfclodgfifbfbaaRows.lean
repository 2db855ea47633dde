/-
  No cell of these rows narrows 'for every input' (looked for: loops, veiled, ifaces, maps, wideKeys, modest, calm, conditions, laid).
  DERIVED. THE GIVEN ROWS OF THIS SEAT. 8 by the template 'for every input the law returns true; each argument reads behind the call as it read before'; 0 by the template 'total and deterministic' (their statements: YtfclodgfifbfbaaTotals.lean).
  GIVEN WITH THE SEED: the statements are not yours to turn. If you find one false, say at which input.
  Laid BY PROGRAM, IN A SANDBOX (cutbox-rows.mjs): the forced cells as the released guide's own fill.sh prints them over the translation c1ad50532b0ac4b3… (all of the seat's roots in one cut). By AI agents, Wed Nov 11 2026. No macro, syntax, notation, axiom, sorry.
-/
import Derived.Test.YtfclodgfifbfbaaChecked
import GoSem.Claim
import GoSem.ClaimJoined
import GoSem.ClaimMapViews
import Derived.JoinedTies
import Derived.KernelRfl
namespace Go.Proofs.Ytfclodgfifbfbaa
/- THE CELL 'sum', in the pinned program and in every row, IS THE sha256 OF THE DUMP (.gsa) THAT YtfclodgfifbfbaaProg.lean LOADS. Nothing in Lean hashes anything: it is a label: what it is worth is what the hold of that sum in a sandbox is worth. -/
noncomputable def Try.pinned : Pinned := { name := "ytfclodgfifbfbaa", sum := "c1ad50532b0ac4b3c3abd6b65350e76af48fd6c0f8dcbb7bb384edc831c8ced4", checked := Try.checked }
namespace Rows
def none {H : Type} : Left H := { results := [], args := [] }

/-- 'slotmeshlaw09.TimesyncMatchesReference': WHATEVER THE INPUT: true; the input reads as it did. -/
def timesyncMatchesReferenceSpec : ChangeSpec := { name := "timesyncMatchesReference", fn := fun _ => fun
  | [d1, d2, d3, d4] => { results := [.lit (.bool true)], args := [d1, d2, d3, d4] }
  | _ => none }
def timesyncMatchesReferenceRow : OpenClaim := { program := "ytfclodgfifbfbaa", sum := "c1ad50532b0ac4b3c3abd6b65350e76af48fd6c0f8dcbb7bb384edc831c8ced4", func := "slotmesh/slotmeshlaw09.TimesyncMatchesReference", spec := "timesyncMatchesReference", inPlace := ["internal/reflectlite.TypeOf"], unfollowed := true, recurses := true, apart := false }
def TimesyncMatchesReferenceSaid : Prop := timesyncMatchesReferenceRow.holds Try.pinned (OpenSpec.ofChange timesyncMatchesReferenceSpec)

/-- ITS FALSE NEIGHBOUR: 'it returns false'. Refute it at one input. -/
def timesyncMatchesReferenceWrong : ChangeSpec := { name := "timesyncMatchesReference", fn := fun _ => fun
  | [d1, d2, d3, d4] => { results := [.lit (.bool false)], args := [d1, d2, d3, d4] }
  | _ => none }
def TimesyncMatchesReferenceWrongFalsely : Prop := timesyncMatchesReferenceRow.holds Try.pinned (OpenSpec.ofChange timesyncMatchesReferenceWrong)

/-- 'slotmeshlaw09.TimesyncNearer': WHATEVER THE INPUT: true; the input reads as it did. -/
def timesyncNearerSpec : ChangeSpec := { name := "timesyncNearer", fn := fun _ => fun
  | [d1, d2] => { results := [.lit (.bool true)], args := [d1, d2] }
  | _ => none }
def timesyncNearerRow : OpenClaim := { program := "ytfclodgfifbfbaa", sum := "c1ad50532b0ac4b3c3abd6b65350e76af48fd6c0f8dcbb7bb384edc831c8ced4", func := "slotmesh/slotmeshlaw09.TimesyncNearer", spec := "timesyncNearer", inPlace := ["internal/reflectlite.TypeOf"], unfollowed := true, recurses := true, apart := false }
def TimesyncNearerSaid : Prop := timesyncNearerRow.holds Try.pinned (OpenSpec.ofChange timesyncNearerSpec)

/-- ITS FALSE NEIGHBOUR: 'it returns false'. Refute it at one input. -/
def timesyncNearerWrong : ChangeSpec := { name := "timesyncNearer", fn := fun _ => fun
  | [d1, d2] => { results := [.lit (.bool false)], args := [d1, d2] }
  | _ => none }
def TimesyncNearerWrongFalsely : Prop := timesyncNearerRow.holds Try.pinned (OpenSpec.ofChange timesyncNearerWrong)

/-- 'slotmeshlaw09.TimesyncRefuses': WHATEVER THE INPUT: true; the input reads as it did. -/
def timesyncRefusesSpec : ChangeSpec := { name := "timesyncRefuses", fn := fun _ => fun
  | [d1, d2] => { results := [.lit (.bool true)], args := [d1, d2] }
  | _ => none }
def timesyncRefusesRow : OpenClaim := { program := "ytfclodgfifbfbaa", sum := "c1ad50532b0ac4b3c3abd6b65350e76af48fd6c0f8dcbb7bb384edc831c8ced4", func := "slotmesh/slotmeshlaw09.TimesyncRefuses", spec := "timesyncRefuses", inPlace := ["internal/reflectlite.TypeOf"], unfollowed := true, recurses := true, apart := false }
def TimesyncRefusesSaid : Prop := timesyncRefusesRow.holds Try.pinned (OpenSpec.ofChange timesyncRefusesSpec)

/-- ITS FALSE NEIGHBOUR: 'it returns false'. Refute it at one input. -/
def timesyncRefusesWrong : ChangeSpec := { name := "timesyncRefuses", fn := fun _ => fun
  | [d1, d2] => { results := [.lit (.bool false)], args := [d1, d2] }
  | _ => none }
def TimesyncRefusesWrongFalsely : Prop := timesyncRefusesRow.holds Try.pinned (OpenSpec.ofChange timesyncRefusesWrong)

/-- 'slotmeshlaw09.TimesyncBetter': WHATEVER THE INPUT: true; the input reads as it did. -/
def timesyncBetterSpec : ChangeSpec := { name := "timesyncBetter", fn := fun _ => fun
  | [d1, d2] => { results := [.lit (.bool true)], args := [d1, d2] }
  | _ => none }
def timesyncBetterRow : OpenClaim := { program := "ytfclodgfifbfbaa", sum := "c1ad50532b0ac4b3c3abd6b65350e76af48fd6c0f8dcbb7bb384edc831c8ced4", func := "slotmesh/slotmeshlaw09.TimesyncBetter", spec := "timesyncBetter", inPlace := ["internal/reflectlite.TypeOf"], unfollowed := true, recurses := true, apart := false }
def TimesyncBetterSaid : Prop := timesyncBetterRow.holds Try.pinned (OpenSpec.ofChange timesyncBetterSpec)

/-- ITS FALSE NEIGHBOUR: 'it returns false'. Refute it at one input. -/
def timesyncBetterWrong : ChangeSpec := { name := "timesyncBetter", fn := fun _ => fun
  | [d1, d2] => { results := [.lit (.bool false)], args := [d1, d2] }
  | _ => none }
def TimesyncBetterWrongFalsely : Prop := timesyncBetterRow.holds Try.pinned (OpenSpec.ofChange timesyncBetterWrong)

/-- 'slotmeshlaw09.TimesyncFades': WHATEVER THE INPUT: true; the input reads as it did. -/
def timesyncFadesSpec : ChangeSpec := { name := "timesyncFades", fn := fun _ => fun
  | [d1, d2, d3] => { results := [.lit (.bool true)], args := [d1, d2, d3] }
  | _ => none }
def timesyncFadesRow : OpenClaim := { program := "ytfclodgfifbfbaa", sum := "c1ad50532b0ac4b3c3abd6b65350e76af48fd6c0f8dcbb7bb384edc831c8ced4", func := "slotmesh/slotmeshlaw09.TimesyncFades", spec := "timesyncFades", inPlace := ["internal/reflectlite.TypeOf"], unfollowed := true, recurses := true, apart := false }
def TimesyncFadesSaid : Prop := timesyncFadesRow.holds Try.pinned (OpenSpec.ofChange timesyncFadesSpec)

/-- ITS FALSE NEIGHBOUR: 'it returns false'. Refute it at one input. -/
def timesyncFadesWrong : ChangeSpec := { name := "timesyncFades", fn := fun _ => fun
  | [d1, d2, d3] => { results := [.lit (.bool false)], args := [d1, d2, d3] }
  | _ => none }
def TimesyncFadesWrongFalsely : Prop := timesyncFadesRow.holds Try.pinned (OpenSpec.ofChange timesyncFadesWrong)

/-- 'slotmeshlaw09.TimesyncRoot': WHATEVER THE INPUT: true; the input reads as it did. -/
def timesyncRootSpec : ChangeSpec := { name := "timesyncRoot", fn := fun _ => fun
  | [d1, d2] => { results := [.lit (.bool true)], args := [d1, d2] }
  | _ => none }
def timesyncRootRow : OpenClaim := { program := "ytfclodgfifbfbaa", sum := "c1ad50532b0ac4b3c3abd6b65350e76af48fd6c0f8dcbb7bb384edc831c8ced4", func := "slotmesh/slotmeshlaw09.TimesyncRoot", spec := "timesyncRoot", inPlace := ["internal/reflectlite.TypeOf"], unfollowed := true, recurses := true, apart := false }
def TimesyncRootSaid : Prop := timesyncRootRow.holds Try.pinned (OpenSpec.ofChange timesyncRootSpec)

/-- ITS FALSE NEIGHBOUR: 'it returns false'. Refute it at one input. -/
def timesyncRootWrong : ChangeSpec := { name := "timesyncRoot", fn := fun _ => fun
  | [d1, d2] => { results := [.lit (.bool false)], args := [d1, d2] }
  | _ => none }
def TimesyncRootWrongFalsely : Prop := timesyncRootRow.holds Try.pinned (OpenSpec.ofChange timesyncRootWrong)

/-- 'slotmeshlaw09.TimesyncTruth': WHATEVER THE INPUT: true; the input reads as it did. -/
def timesyncTruthSpec : ChangeSpec := { name := "timesyncTruth", fn := fun _ => fun
  | [d1, d2, d3, d4, d5, d6] => { results := [.lit (.bool true)], args := [d1, d2, d3, d4, d5, d6] }
  | _ => none }
def timesyncTruthRow : OpenClaim := { program := "ytfclodgfifbfbaa", sum := "c1ad50532b0ac4b3c3abd6b65350e76af48fd6c0f8dcbb7bb384edc831c8ced4", func := "slotmesh/slotmeshlaw09.TimesyncTruth", spec := "timesyncTruth", inPlace := ["internal/reflectlite.TypeOf"], unfollowed := true, recurses := true, apart := false }
def TimesyncTruthSaid : Prop := timesyncTruthRow.holds Try.pinned (OpenSpec.ofChange timesyncTruthSpec)

/-- ITS FALSE NEIGHBOUR: 'it returns false'. Refute it at one input. -/
def timesyncTruthWrong : ChangeSpec := { name := "timesyncTruth", fn := fun _ => fun
  | [d1, d2, d3, d4, d5, d6] => { results := [.lit (.bool false)], args := [d1, d2, d3, d4, d5, d6] }
  | _ => none }
def TimesyncTruthWrongFalsely : Prop := timesyncTruthRow.holds Try.pinned (OpenSpec.ofChange timesyncTruthWrong)

/-- 'slotmeshlaw09.TimesyncEstimate': WHATEVER THE INPUT: true; the input reads as it did. -/
def timesyncEstimateSpec : ChangeSpec := { name := "timesyncEstimate", fn := fun _ => fun
  | [d1, d2, d3, d4] => { results := [.lit (.bool true)], args := [d1, d2, d3, d4] }
  | _ => none }
def timesyncEstimateRow : OpenClaim := { program := "ytfclodgfifbfbaa", sum := "c1ad50532b0ac4b3c3abd6b65350e76af48fd6c0f8dcbb7bb384edc831c8ced4", func := "slotmesh/slotmeshlaw09.TimesyncEstimate", spec := "timesyncEstimate", inPlace := ["internal/reflectlite.TypeOf"], unfollowed := true, recurses := true, apart := false }
def TimesyncEstimateSaid : Prop := timesyncEstimateRow.holds Try.pinned (OpenSpec.ofChange timesyncEstimateSpec)

/-- ITS FALSE NEIGHBOUR: 'it returns false'. Refute it at one input. -/
def timesyncEstimateWrong : ChangeSpec := { name := "timesyncEstimate", fn := fun _ => fun
  | [d1, d2, d3, d4] => { results := [.lit (.bool false)], args := [d1, d2, d3, d4] }
  | _ => none }
def TimesyncEstimateWrongFalsely : Prop := timesyncEstimateRow.holds Try.pinned (OpenSpec.ofChange timesyncEstimateWrong)

/- THE SECOND FORM. 'bulk': how many values and letters a reading holds, each counted each time it is reached (what is shared counts as often as it is met; a slice's spare places count too). A statement '..UptoSaid' is the law's where the arguments, and the package variables that the reading takes, are together of bulk at most 1048576: NARROWER than '..Said'. Prove '..Said' where nothing that the law and all that it calls make is longer than what came in: it says more and counts as full. Else prove '..UptoSaid'. A law counts once. -/
mutual
def uptoBulk {H : Type} : DataW H → Nat
  | .lit (.string bytes) => bytes.length + 1
  | .lit _ => 1
  | .nil => 1
  | .ptr d => uptoBulk d + 1
  | .slice elems spare => uptoBulkAll elems + uptoBulkAll spare + 1
  | .agg parts => uptoBulkAll parts + 1
  | .iface _ d => uptoBulk d + 1
  | .map entries => uptoBulkEntries entries + 1
  | .held _ => 1
def uptoBulkAll {H : Type} : List (DataW H) → Nat
  | [] => 0
  | d :: r => uptoBulk d + uptoBulkAll r
def uptoBulkEntries {H : Type} : List (Lit × DataW H) → Nat
  | [] => 0
  | x :: r => uptoBulkEntry x + uptoBulkEntries r
def uptoBulkEntry {H : Type} : Lit × DataW H → Nat
  | (.string bytes, d) => bytes.length + uptoBulk d + 1
  | (_, d) => uptoBulk d + 1
 end
def uptoSmall : (H : Type) → List (DataW H) → Bool := fun _ ds => decide (uptoBulkAll ds ≤ 1048576)
def OpenSpec.upto (s : _root_.Go.ChangeSpec) : _root_.Go.OpenSpec := { _root_.Go.OpenSpec.ofChange s with cond := some uptoSmall }

/-- 'slotmeshlaw09.TimesyncMatchesReference', WHERE WHAT IT READS IS OF BULK AT MOST 1048576: true; the input reads as it did. -/
def timesyncMatchesReferenceUptoRow : OpenClaim := { program := "ytfclodgfifbfbaa", sum := "c1ad50532b0ac4b3c3abd6b65350e76af48fd6c0f8dcbb7bb384edc831c8ced4", func := "slotmesh/slotmeshlaw09.TimesyncMatchesReference", spec := "timesyncMatchesReference", inPlace := ["internal/reflectlite.TypeOf"], unfollowed := true, recurses := true, apart := false, narrowed := true }
def TimesyncMatchesReferenceUptoSaid : Prop := timesyncMatchesReferenceUptoRow.holds Try.pinned (OpenSpec.upto timesyncMatchesReferenceSpec)

/-- 'slotmeshlaw09.TimesyncNearer', WHERE WHAT IT READS IS OF BULK AT MOST 1048576: true; the input reads as it did. -/
def timesyncNearerUptoRow : OpenClaim := { program := "ytfclodgfifbfbaa", sum := "c1ad50532b0ac4b3c3abd6b65350e76af48fd6c0f8dcbb7bb384edc831c8ced4", func := "slotmesh/slotmeshlaw09.TimesyncNearer", spec := "timesyncNearer", inPlace := ["internal/reflectlite.TypeOf"], unfollowed := true, recurses := true, apart := false, narrowed := true }
def TimesyncNearerUptoSaid : Prop := timesyncNearerUptoRow.holds Try.pinned (OpenSpec.upto timesyncNearerSpec)

/-- 'slotmeshlaw09.TimesyncRefuses', WHERE WHAT IT READS IS OF BULK AT MOST 1048576: true; the input reads as it did. -/
def timesyncRefusesUptoRow : OpenClaim := { program := "ytfclodgfifbfbaa", sum := "c1ad50532b0ac4b3c3abd6b65350e76af48fd6c0f8dcbb7bb384edc831c8ced4", func := "slotmesh/slotmeshlaw09.TimesyncRefuses", spec := "timesyncRefuses", inPlace := ["internal/reflectlite.TypeOf"], unfollowed := true, recurses := true, apart := false, narrowed := true }
def TimesyncRefusesUptoSaid : Prop := timesyncRefusesUptoRow.holds Try.pinned (OpenSpec.upto timesyncRefusesSpec)

/-- 'slotmeshlaw09.TimesyncBetter', WHERE WHAT IT READS IS OF BULK AT MOST 1048576: true; the input reads as it did. -/
def timesyncBetterUptoRow : OpenClaim := { program := "ytfclodgfifbfbaa", sum := "c1ad50532b0ac4b3c3abd6b65350e76af48fd6c0f8dcbb7bb384edc831c8ced4", func := "slotmesh/slotmeshlaw09.TimesyncBetter", spec := "timesyncBetter", inPlace := ["internal/reflectlite.TypeOf"], unfollowed := true, recurses := true, apart := false, narrowed := true }
def TimesyncBetterUptoSaid : Prop := timesyncBetterUptoRow.holds Try.pinned (OpenSpec.upto timesyncBetterSpec)

/-- 'slotmeshlaw09.TimesyncFades', WHERE WHAT IT READS IS OF BULK AT MOST 1048576: true; the input reads as it did. -/
def timesyncFadesUptoRow : OpenClaim := { program := "ytfclodgfifbfbaa", sum := "c1ad50532b0ac4b3c3abd6b65350e76af48fd6c0f8dcbb7bb384edc831c8ced4", func := "slotmesh/slotmeshlaw09.TimesyncFades", spec := "timesyncFades", inPlace := ["internal/reflectlite.TypeOf"], unfollowed := true, recurses := true, apart := false, narrowed := true }
def TimesyncFadesUptoSaid : Prop := timesyncFadesUptoRow.holds Try.pinned (OpenSpec.upto timesyncFadesSpec)

/-- 'slotmeshlaw09.TimesyncRoot', WHERE WHAT IT READS IS OF BULK AT MOST 1048576: true; the input reads as it did. -/
def timesyncRootUptoRow : OpenClaim := { program := "ytfclodgfifbfbaa", sum := "c1ad50532b0ac4b3c3abd6b65350e76af48fd6c0f8dcbb7bb384edc831c8ced4", func := "slotmesh/slotmeshlaw09.TimesyncRoot", spec := "timesyncRoot", inPlace := ["internal/reflectlite.TypeOf"], unfollowed := true, recurses := true, apart := false, narrowed := true }
def TimesyncRootUptoSaid : Prop := timesyncRootUptoRow.holds Try.pinned (OpenSpec.upto timesyncRootSpec)

/-- 'slotmeshlaw09.TimesyncTruth', WHERE WHAT IT READS IS OF BULK AT MOST 1048576: true; the input reads as it did. -/
def timesyncTruthUptoRow : OpenClaim := { program := "ytfclodgfifbfbaa", sum := "c1ad50532b0ac4b3c3abd6b65350e76af48fd6c0f8dcbb7bb384edc831c8ced4", func := "slotmesh/slotmeshlaw09.TimesyncTruth", spec := "timesyncTruth", inPlace := ["internal/reflectlite.TypeOf"], unfollowed := true, recurses := true, apart := false, narrowed := true }
def TimesyncTruthUptoSaid : Prop := timesyncTruthUptoRow.holds Try.pinned (OpenSpec.upto timesyncTruthSpec)

/-- 'slotmeshlaw09.TimesyncEstimate', WHERE WHAT IT READS IS OF BULK AT MOST 1048576: true; the input reads as it did. -/
def timesyncEstimateUptoRow : OpenClaim := { program := "ytfclodgfifbfbaa", sum := "c1ad50532b0ac4b3c3abd6b65350e76af48fd6c0f8dcbb7bb384edc831c8ced4", func := "slotmesh/slotmeshlaw09.TimesyncEstimate", spec := "timesyncEstimate", inPlace := ["internal/reflectlite.TypeOf"], unfollowed := true, recurses := true, apart := false, narrowed := true }
def TimesyncEstimateUptoSaid : Prop := timesyncEstimateUptoRow.holds Try.pinned (OpenSpec.upto timesyncEstimateSpec)

end Rows
end Go.Proofs.Ytfclodgfifbfbaa
