/- DownNewest: from the walk of the Go function to the given statement, for every input. No condition beyond the statement. -/
import Derived.Test.YtheifmdaladfdaaRows
import Derived.Test.YtheifmdaladfdaaKit
import Derived.Test.YtheifmdaladfdaaDownNewest
namespace Go.Proofs.Ytheifmdaladfdaa.downNewest
open Go.ChangeShapes Go.WideShapes Go.ChangeAt Go.RowKit
set_option linter.unusedVariables false

theorem own : ownKnob Try.prog.godebug = none := by kernel_rfl
theorem laidOut : laidOutB Try.prog = true := by kernel_rfl

set_option maxRecDepth 100000 in
theorem lifted (os : Os) (started : os.Started) (H : Type) (enc : TypeId × Value → H) :
    ReturnsInHanded {} Try.checked os 5 .any (Rows.downNewestSpec.pre6 enc Try.prog Try.f5 Rows.downNewestRow.domain false) (Rows.downNewestSpec.post enc Try.prog Try.f5 false true false false) := by
  refine returnsInHanded_of_change (C := Try.checked) own started (by kernel_rfl) Try.func5
    (ChangeSpec.witness6 (enc := enc) (C := Try.checked) false ⟨#[], #[.slice none 0 0, .int .i64 0, .int .i64 0, .slice none 0 0, .int .i64 0, .int .u8 0, .slice none 0 0], []⟩ 8 (by kernel_rfl) (by kernel_rfl) (by kernel_rfl) (by kernel_rfl)) ?_
  intro W base args ds gs before hval0 hW hcnd _
  have hval : ∀ (j : Nat) t v, Try.f5.params[j]? = some t → args[j]? = some v → Value.okWide Try.prog W .any base t v := hval0
  have hW' := hW
  obtain ⟨p, q, hA0, hV, rfl, hfz, hnd⟩ := hW
  have hA : DataW.TrodAll enc Try.prog W 0 (fun _ => true) true Try.f5.params.toList args.toList ds p := hA0
  rw [Try.params5] at hA hval
  have hA1 := hA
  obtain ⟨v0, vs0, d0, ds0, p0, q0, hargs, rfl, rfl, h0, r0⟩ := trodAll_cons hA
  obtain ⟨v1, vs1, d1, ds1, p1, q1, rfl, rfl, rfl, h1, r1⟩ := trodAll_cons r0
  obtain ⟨v2, vs2, d2, ds2, p2, q2, rfl, rfl, rfl, h2, r2⟩ := trodAll_cons r1
  obtain ⟨v3, vs3, d3, ds3, p3, q3, rfl, rfl, rfl, h3, r3⟩ := trodAll_cons r2
  obtain ⟨v4, vs4, d4, ds4, p4, q4, rfl, rfl, rfl, h4, r4⟩ := trodAll_cons r3
  obtain ⟨v5, vs5, d5, ds5, p5, q5, rfl, rfl, rfl, h5, r5⟩ := trodAll_cons r4
  obtain ⟨v6, vs6, d6, ds6, p6, q6, rfl, rfl, rfl, h6, r6⟩ := trodAll_cons r5
  obtain ⟨rfl, rfl, rfl⟩ := trodAll_nil r6
  obtain rfl : args = #[v0, v1, v2, v3, v4, v5, v6] := by cases args; simp_all
  obtain ⟨rfl, rfl⟩ := trodVars_none hV
  obtain ⟨s0, n0, c0, rfl⟩ := okWide_slice Try.underlying22 (hval 0 22 v0 rfl rfl)
  obtain ⟨fu0, hx0⟩ := h0
  obtain ⟨rows0, sv0, kc0⟩ := open_slv (t := 22) (e := 35) (ks := [some .i64, some .i64, some .i64, some .i64]) (n := 5) Try.underlying22 (by kernel_rfl) (by kernel_rfl) (by kernel_rfl) (by decide) (v := .slice s0 n0 c0) (fuel := fu0) (by simpa [Value.cells] using hx0)
  obtain ⟨as0, rfl, qs0⟩ := rows_typedP (f := Dn.cells) (Q := (fun _ => True)) (fun cs hcs => dn_of (kc0 cs hcs))
  obtain ⟨a1, rfl, ha1⟩ := open_num Try.underlying3 (hval 1 3 v1 rfl rfl)
  obtain ⟨a2, rfl, ha2⟩ := open_num Try.underlying3 (hval 2 3 v2 rfl rfl)
  obtain ⟨s3, n3, c3, rfl⟩ := okWide_slice Try.underlying22 (hval 3 22 v3 rfl rfl)
  obtain ⟨fu3, hx3⟩ := h3
  obtain ⟨rows3, sv3, kc3⟩ := open_slv (t := 22) (e := 35) (ks := [some .i64, some .i64, some .i64, some .i64]) (n := 5) Try.underlying22 (by kernel_rfl) (by kernel_rfl) (by kernel_rfl) (by decide) (v := .slice s3 n3 c3) (fuel := fu3) (by simpa [Value.cells] using hx3)
  obtain ⟨as3, rfl, qs3⟩ := rows_typedP (f := Dn.cells) (Q := (fun _ => True)) (fun cs hcs => dn_of (kc3 cs hcs))
  obtain ⟨a4, rfl, ha4⟩ := open_num Try.underlying3 (hval 4 3 v4 rfl rfl)
  obtain ⟨a5, rfl, ha5⟩ := open_num Try.underlying5 (hval 5 5 v5 rfl rfl)
  obtain ⟨s6, n6, c6, rfl⟩ := okWide_slice Try.underlying38 (hval 6 38 v6 rfl rfl)
  obtain ⟨fu6, hx6⟩ := h6
  obtain ⟨rows6, sv6, kc6⟩ := open_slv (t := 38) (e := 5) (ks := [some .u8]) (n := 5) Try.underlying38 (by kernel_rfl) (by kernel_rfl) (by kernel_rfl) (by decide) (v := .slice s6 n6 c6) (fuel := fu6) (by simpa [Value.cells] using hx6)
  obtain ⟨as6, rfl, qs6⟩ := rows_typedP (f := chL.f) (Q := (fun a => 0 ≤ a ∧ a < 256)) (fun cs hcs => ch_of (kc6 cs hcs))
  clear hA0 hval0
  refine (downNewest_walk (.slice s0 n0 c0) as0 a1 a2 (.slice s3 n3 c3) as3 a4 a5 (.slice s6 n6 c6) as6 W sv0 qs0 ha1 ha2 sv3 qs3 ha4 ha5 sv6 qs6).mono fun e W' ⟨he, bel⟩ => ?_
  subst he
  exact ⟨_, rfl, _, _, _, [], _, [], hW', trodAll_mk1 (shut_bool Try.underlying4 _), trodAll_below laidOut bel (by kernel_rfl) hA1, rfl, bel.frame _, fun h => by cases h⟩

theorem over : Rows.downNewestRow.holds Try.pinned (OpenSpec.ofChange Rows.downNewestSpec) :=
  OpenClaim.holds_of_wide 5 Try.f5 rfl rfl rfl rfl rfl rfl rfl ⟨rfl, rfl, rfl, rfl, rfl⟩ rfl rfl rfl rfl rfl (by kernel_rfl) Try.func5 (by kernel_rfl)
    (of_decide_eq_true (by kernel_rfl)) (by unfold Func.isWrapper; rw [if_neg (of_decide_eq_false (by kernel_rfl))]; exact ⟨rfl, rfl⟩)
    (fun os started H enc _ => lifted os started H enc)

/-- THE STATEMENT. -/
theorem proved : Rows.DownNewestSaid := over

#print axioms proved
end Go.Proofs.Ytheifmdaladfdaa.downNewest
