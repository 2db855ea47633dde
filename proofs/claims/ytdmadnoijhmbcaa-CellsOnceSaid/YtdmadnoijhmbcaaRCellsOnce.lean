/- CellsOnce: from the walk of the Go function to the given statement, for every input. No condition beyond the statement. -/
import Derived.Test.YtdmadnoijhmbcaaRows
import Derived.Test.YtdmadnoijhmbcaaKit
import Derived.Test.YtdmadnoijhmbcaaCellsOnce
namespace Go.Proofs.Ytdmadnoijhmbcaa.cellsOnce
open Go.ChangeShapes Go.WideShapes Go.ChangeAt Go.RowKit
set_option linter.unusedVariables false

theorem own : ownKnob Try.prog.godebug = none := by kernel_rfl
theorem laidOut : laidOutB Try.prog = true := by kernel_rfl

set_option maxRecDepth 100000 in
theorem lifted (os : Os) (started : os.Started) (H : Type) (enc : TypeId × Value → H) :
    ReturnsInHanded {} Try.checked os 5 .any (Rows.cellsOnceSpec.pre6 enc Try.prog Try.f5 Rows.cellsOnceRow.domain false) (Rows.cellsOnceSpec.post enc Try.prog Try.f5 false true false false) := by
  refine returnsInHanded_of_change (C := Try.checked) own started (by kernel_rfl) Try.func5
    (ChangeSpec.witness6 (enc := enc) (C := Try.checked) false ⟨#[], #[.agg #[.slice none 0 0, .slice none 0 0, .slice none 0 0], .agg #[.int .i64 0, .int .i64 0], .slice none 0 0], []⟩ 8 (by kernel_rfl) (by kernel_rfl) (by kernel_rfl) (by kernel_rfl)) ?_
  intro W base args ds gs before hval0 hW hcnd _
  have hval : ∀ (j : Nat) t v, Try.f5.params[j]? = some t → args[j]? = some v → Value.okWide Try.prog W .any base t v := hval0
  have hW' := hW
  obtain ⟨p, q, hA0, hV, rfl, hfz, hnd⟩ := hW
  have hA : DataW.TrodAll enc Try.prog W 0 (fun _ => true) true Try.f5.params.toList args.toList ds p := hA0
  rw [Try.params5] at hA hval
  have hA1 := hA
  obtain ⟨v0, vs0, d0, ds0, p0, q0, hargs, rfl, rfl, h0, r0⟩ := trodAll_cons hA
  obtain ⟨v1, vs1, d1, ds1, p1, q1, rfl, rfl, rfl, h1, r1⟩ := trodAll_cons r0
  obtain ⟨v2, vs2, d2, ds2, p2, q2, rfl, rfl, rfl, h2, r2⟩ := trodAll_cons r1
  obtain ⟨rfl, rfl, rfl⟩ := trodAll_nil r2
  obtain rfl : args = #[v0, v1, v2] := by cases args; simp_all
  obtain ⟨rfl, rfl⟩ := trodVars_none hV
  obtain ⟨vu0, vg0, va0, us0, gs0, ks0, rfl, su0, sg0, sa0⟩ := open_tbl (hval 0 26 v0 rfl rfl) h0
  obtain ⟨l1, rfl, k1⟩ := open_flat (ts := [3, 3]) (ks := [some .i64, some .i64]) Try.underlying28 (by kernel_rfl) (by kernel_rfl) (by kernel_rfl) (hval 1 28 v1 rfl rfl)
  simp only [okCells] at k1
  obtain ⟨a1_0, t1_0, rfl, ha1_0, a1_1, t1_1, rfl, ha1_1, rfl⟩ := k1
  obtain ⟨s2, n2, c2, rfl⟩ := okWide_slice Try.underlying53 (hval 2 53 v2 rfl rfl)
  obtain ⟨fu2, hx2⟩ := h2
  obtain ⟨rows2, sv2, kc2⟩ := open_slv (t := 53) (e := 55) (ks := [some .u8, some .i64, some .i64, some .i64, some .i64]) (n := 5) Try.underlying53 (by kernel_rfl) (by kernel_rfl) (by kernel_rfl) (by decide) (v := .slice s2 n2 c2) (fuel := fu2) (by simpa [Value.cells] using hx2)
  obtain ⟨as2, rfl, qs2⟩ := rows_typedP (f := St.cells) (Q := (fun d => 0 ≤ St.k d ∧ St.k d ≤ 255)) (fun cs hcs => st_of (kc2 cs hcs))
  clear hA0 hval0
  refine (cellsOnce_walk vu0 vg0 va0 us0 gs0 ks0 a1_0 a1_1 (.slice s2 n2 c2) as2 W su0 sg0 sa0 ha1_0 ha1_1 sv2 qs2).mono fun e W' ⟨he, bel⟩ => ?_
  subst he
  exact ⟨_, rfl, _, _, _, [], _, [], hW', trodAll_mk1 (shut_bool Try.underlying4 _), trodAll_below laidOut bel (by kernel_rfl) hA1, rfl, bel.frame _, fun h => by cases h⟩

theorem over : Rows.cellsOnceRow.holds Try.pinned (OpenSpec.ofChange Rows.cellsOnceSpec) :=
  OpenClaim.holds_of_wide 5 Try.f5 rfl rfl rfl rfl rfl rfl rfl ⟨rfl, rfl, rfl, rfl, rfl⟩ rfl rfl rfl rfl rfl (by kernel_rfl) Try.func5 (by kernel_rfl)
    (of_decide_eq_true (by kernel_rfl)) (by unfold Func.isWrapper; rw [if_neg (of_decide_eq_false (by kernel_rfl))]; exact ⟨rfl, rfl⟩)
    (fun os started H enc _ => lifted os started H enc)

/-- THE STATEMENT. -/
theorem proved : Rows.CellsOnceSaid := over

#print axioms proved
end Go.Proofs.Ytdmadnoijhmbcaa.cellsOnce
