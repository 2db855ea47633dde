/- TimesyncFades: from the walk of the Go function to the given statement, for every input. No condition beyond the statement. -/
import Derived.Test.YtfclodgfifbfbaaRows
import Derived.Test.YtfclodgfifbfbaaKit
import Derived.Test.YtfclodgfifbfbaaFadesLaw
namespace Go.Proofs.Ytfclodgfifbfbaa.timesyncFades
open Go.ChangeShapes Go.WideShapes Go.ChangeAt Go.RowKit
set_option linter.unusedVariables false

theorem own : ownKnob Try.prog.godebug = none := by kernel_rfl
theorem laidOut : laidOutB Try.prog = true := by kernel_rfl

set_option maxRecDepth 100000 in
theorem lifted (os : Os) (started : os.Started) (H : Type) (enc : TypeId × Value → H) :
    ReturnsInHanded {} Try.checked os 7 .any (Rows.timesyncFadesSpec.pre6 enc Try.prog Try.f7 Rows.timesyncFadesRow.domain false) (Rows.timesyncFadesSpec.post enc Try.prog Try.f7 false true false false) := by
  refine returnsInHanded_of_change (C := Try.checked) own started (by kernel_rfl) Try.func7
    (ChangeSpec.witness6 (enc := enc) (C := Try.checked) false ⟨#[], #[.agg #[.bool false, .int .i64 0, .int .i64 0, .int .i64 0, .int .i64 0, .int .i64 0, .int .i64 0], .int .i64 0, .int .i64 0], []⟩ 8 (by kernel_rfl) (by kernel_rfl) (by kernel_rfl) (by kernel_rfl)) ?_
  intro W base args ds gs before hval0 hW hcnd _
  have hval : ∀ (j : Nat) t v, Try.f7.params[j]? = some t → args[j]? = some v → Value.okWide Try.prog W .any base t v := hval0
  have hW' := hW
  obtain ⟨p, q, hA0, hV, rfl, hfz, hnd⟩ := hW
  have hA : DataW.TrodAll enc Try.prog W 0 (fun _ => true) true Try.f7.params.toList args.toList ds p := hA0
  rw [Try.params7] at hA hval
  have hA1 := hA
  obtain ⟨v0, vs0, d0, ds0, p0, q0, hargs, rfl, rfl, h0, r0⟩ := trodAll_cons hA
  obtain ⟨v1, vs1, d1, ds1, p1, q1, rfl, rfl, rfl, h1, r1⟩ := trodAll_cons r0
  obtain ⟨v2, vs2, d2, ds2, p2, q2, rfl, rfl, rfl, h2, r2⟩ := trodAll_cons r1
  obtain ⟨rfl, rfl, rfl⟩ := trodAll_nil r2
  obtain rfl : args = #[v0, v1, v2] := by cases args; simp_all
  obtain ⟨rfl, rfl⟩ := trodVars_none hV
  obtain ⟨l0, rfl, k0⟩ := open_flat (ts := [4, 3, 3, 3, 3, 3, 3]) (ks := [none, some .i64, some .i64, some .i64, some .i64, some .i64, some .i64]) Try.underlying25 (by kernel_rfl) (by kernel_rfl) (by kernel_rfl) (hval 0 25 v0 rfl rfl)
  simp only [okCells] at k0
  obtain ⟨a0_0, t0_0, rfl, a0_1, t0_1, rfl, ha0_1, a0_2, t0_2, rfl, ha0_2, a0_3, t0_3, rfl, ha0_3, a0_4, t0_4, rfl, ha0_4, a0_5, t0_5, rfl, ha0_5, a0_6, t0_6, rfl, ha0_6, rfl⟩ := k0
  obtain ⟨a1, rfl, ha1⟩ := open_num Try.underlying3 (hval 1 3 v1 rfl rfl)
  obtain ⟨a2, rfl, ha2⟩ := open_num Try.underlying3 (hval 2 3 v2 rfl rfl)
  clear hA0 hval0
  refine (timesyncFades_walk a0_0 a0_1 a0_2 a0_3 a0_4 a0_5 a0_6 a1 a2 W ha0_1 ha0_2 ha0_3 ha0_4 ha0_5 ha0_6 ha1 ha2).mono fun e W' ⟨he, bel⟩ => ?_
  subst he
  exact ⟨_, rfl, _, _, _, [], _, [], hW', trodAll_mk1 (shut_bool Try.underlying4 _), trodAll_below laidOut bel (by kernel_rfl) hA1, rfl, bel.frame _, fun h => by cases h⟩

theorem over : Rows.timesyncFadesRow.holds Try.pinned (OpenSpec.ofChange Rows.timesyncFadesSpec) :=
  OpenClaim.holds_of_wide 7 Try.f7 rfl rfl rfl rfl rfl rfl rfl ⟨rfl, rfl, rfl, rfl, rfl⟩ rfl rfl rfl rfl rfl (by kernel_rfl) Try.func7 (by kernel_rfl)
    (of_decide_eq_true (by kernel_rfl)) (by unfold Func.isWrapper; rw [if_neg (of_decide_eq_false (by kernel_rfl))]; exact ⟨rfl, rfl⟩)
    (fun os started H enc _ => lifted os started H enc)

/-- THE STATEMENT. -/
theorem proved : Rows.TimesyncFadesSaid := over

#print axioms proved
end Go.Proofs.Ytfclodgfifbfbaa.timesyncFades
