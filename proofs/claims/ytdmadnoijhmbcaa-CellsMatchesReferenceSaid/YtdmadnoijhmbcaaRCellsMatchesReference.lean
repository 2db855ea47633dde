/- CellsMatchesReference: from the walk of the Go function to the given statement, for every input. No condition beyond the statement. -/
import Derived.Test.YtdmadnoijhmbcaaRows
import Derived.Test.YtdmadnoijhmbcaaKit
import Derived.Test.YtdmadnoijhmbcaaCellsMatchesReference
namespace Go.Proofs.Ytdmadnoijhmbcaa.cellsMatchesReference
open Go.ChangeShapes Go.WideShapes Go.ChangeAt Go.RowKit
set_option linter.unusedVariables false

theorem own : ownKnob Try.prog.godebug = none := by kernel_rfl
theorem laidOut : laidOutB Try.prog = true := by kernel_rfl

set_option maxRecDepth 100000 in
theorem lifted (os : Os) (started : os.Started) (H : Type) (enc : TypeId × Value → H) :
    ReturnsInHanded {} Try.checked os 3 .any (Rows.cellsMatchesReferenceSpec.pre6 enc Try.prog Try.f3 Rows.cellsMatchesReferenceRow.domain false) (Rows.cellsMatchesReferenceSpec.post enc Try.prog Try.f3 false true false false) := by
  refine returnsInHanded_of_change (C := Try.checked) own started (by kernel_rfl) Try.func3
    (ChangeSpec.witness6 (enc := enc) (C := Try.checked) false ⟨#[], #[.agg #[.slice none 0 0, .slice none 0 0, .slice none 0 0], .agg #[.int .i64 0, .int .i64 0], .agg #[.int .i64 0, .int .i64 0, .int .i64 0, .int .i64 0], .agg #[.int .i64 0, .int .i64 0, .int .i64 0, .int .i64 0, .int .i64 0], .agg #[.int .i64 0, .int .i64 0], .int .i64 0], []⟩ 8 (by kernel_rfl) (by kernel_rfl) (by kernel_rfl) (by kernel_rfl)) ?_
  intro W base args ds gs before hval0 hW hcnd _
  have hval : ∀ (j : Nat) t v, Try.f3.params[j]? = some t → args[j]? = some v → Value.okWide Try.prog W .any base t v := hval0
  have hW' := hW
  obtain ⟨p, q, hA0, hV, rfl, hfz, hnd⟩ := hW
  have hA : DataW.TrodAll enc Try.prog W 0 (fun _ => true) true Try.f3.params.toList args.toList ds p := hA0
  rw [Try.params3] at hA hval
  have hA1 := hA
  obtain ⟨v0, vs0, d0, ds0, p0, q0, hargs, rfl, rfl, h0, r0⟩ := trodAll_cons hA
  obtain ⟨v1, vs1, d1, ds1, p1, q1, rfl, rfl, rfl, h1, r1⟩ := trodAll_cons r0
  obtain ⟨v2, vs2, d2, ds2, p2, q2, rfl, rfl, rfl, h2, r2⟩ := trodAll_cons r1
  obtain ⟨v3, vs3, d3, ds3, p3, q3, rfl, rfl, rfl, h3, r3⟩ := trodAll_cons r2
  obtain ⟨v4, vs4, d4, ds4, p4, q4, rfl, rfl, rfl, h4, r4⟩ := trodAll_cons r3
  obtain ⟨v5, vs5, d5, ds5, p5, q5, rfl, rfl, rfl, h5, r5⟩ := trodAll_cons r4
  obtain ⟨rfl, rfl, rfl⟩ := trodAll_nil r5
  obtain rfl : args = #[v0, v1, v2, v3, v4, v5] := by cases args; simp_all
  obtain ⟨rfl, rfl⟩ := trodVars_none hV
  obtain ⟨vu0, vg0, va0, us0, gs0, ks0, rfl, su0, sg0, sa0⟩ := open_tbl (hval 0 26 v0 rfl rfl) h0
  obtain ⟨l1, rfl, k1⟩ := open_flat (ts := [3, 3]) (ks := [some .i64, some .i64]) Try.underlying28 (by kernel_rfl) (by kernel_rfl) (by kernel_rfl) (hval 1 28 v1 rfl rfl)
  simp only [okCells] at k1
  obtain ⟨a1_0, t1_0, rfl, ha1_0, a1_1, t1_1, rfl, ha1_1, rfl⟩ := k1
  obtain ⟨l2, rfl, k2⟩ := open_flat (ts := [3, 3, 3, 3]) (ks := [some .i64, some .i64, some .i64, some .i64]) Try.underlying32 (by kernel_rfl) (by kernel_rfl) (by kernel_rfl) (hval 2 32 v2 rfl rfl)
  simp only [okCells] at k2
  obtain ⟨a2_0, t2_0, rfl, ha2_0, a2_1, t2_1, rfl, ha2_1, a2_2, t2_2, rfl, ha2_2, a2_3, t2_3, rfl, ha2_3, rfl⟩ := k2
  obtain ⟨l3, rfl, k3⟩ := open_flat (ts := [3, 3, 3, 3, 3]) (ks := [some .i64, some .i64, some .i64, some .i64, some .i64]) Try.underlying34 (by kernel_rfl) (by kernel_rfl) (by kernel_rfl) (hval 3 34 v3 rfl rfl)
  simp only [okCells] at k3
  obtain ⟨a3_0, t3_0, rfl, ha3_0, a3_1, t3_1, rfl, ha3_1, a3_2, t3_2, rfl, ha3_2, a3_3, t3_3, rfl, ha3_3, a3_4, t3_4, rfl, ha3_4, rfl⟩ := k3
  obtain ⟨l4, rfl, k4⟩ := open_flat (ts := [3, 3]) (ks := [some .i64, some .i64]) Try.underlying30 (by kernel_rfl) (by kernel_rfl) (by kernel_rfl) (hval 4 30 v4 rfl rfl)
  simp only [okCells] at k4
  obtain ⟨a4_0, t4_0, rfl, ha4_0, a4_1, t4_1, rfl, ha4_1, rfl⟩ := k4
  obtain ⟨a5, rfl, ha5⟩ := open_num Try.underlying3 (hval 5 3 v5 rfl rfl)
  clear hA0 hval0
  refine (cellsMatchesReference_walk vu0 vg0 va0 us0 gs0 ks0 a1_0 a1_1 a2_0 a2_1 a2_2 a2_3 a3_0 a3_1 a3_2 a3_3 a3_4 a4_0 a4_1 a5 W su0 sg0 sa0 ha1_0 ha1_1 ha2_0 ha2_1 ha2_2 ha2_3 ha3_0 ha3_1 ha3_2 ha3_3 ha3_4 ha4_0 ha4_1 ha5).mono fun e W' ⟨he, bel⟩ => ?_
  subst he
  exact ⟨_, rfl, _, _, _, [], _, [], hW', trodAll_mk1 (shut_bool Try.underlying4 _), trodAll_below laidOut bel (by kernel_rfl) hA1, rfl, bel.frame _, fun h => by cases h⟩

theorem over : Rows.cellsMatchesReferenceRow.holds Try.pinned (OpenSpec.ofChange Rows.cellsMatchesReferenceSpec) :=
  OpenClaim.holds_of_wide 3 Try.f3 rfl rfl rfl rfl rfl rfl rfl ⟨rfl, rfl, rfl, rfl, rfl⟩ rfl rfl rfl rfl rfl (by kernel_rfl) Try.func3 (by kernel_rfl)
    (of_decide_eq_true (by kernel_rfl)) (by unfold Func.isWrapper; rw [if_neg (of_decide_eq_false (by kernel_rfl))]; exact ⟨rfl, rfl⟩)
    (fun os started H enc _ => lifted os started H enc)

/-- THE STATEMENT. -/
theorem proved : Rows.CellsMatchesReferenceSaid := over

#print axioms proved
end Go.Proofs.Ytdmadnoijhmbcaa.cellsMatchesReference
