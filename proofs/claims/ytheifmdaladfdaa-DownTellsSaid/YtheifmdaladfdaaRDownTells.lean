/- DownTells: from the walk of the Go function to the given statement, for every input. No condition beyond the statement. -/
import Derived.Test.YtheifmdaladfdaaRows
import Derived.Test.YtheifmdaladfdaaKit
import Derived.Test.YtheifmdaladfdaaDownTells
namespace Go.Proofs.Ytheifmdaladfdaa.downTells
open Go.ChangeShapes Go.WideShapes Go.ChangeAt Go.RowKit
set_option linter.unusedVariables false

theorem own : ownKnob Try.prog.godebug = none := by kernel_rfl
theorem laidOut : laidOutB Try.prog = true := by kernel_rfl

set_option maxRecDepth 100000 in
theorem lifted (os : Os) (started : os.Started) (H : Type) (enc : TypeId × Value → H) :
    ReturnsInHanded {} Try.checked os 9 .any (Rows.downTellsSpec.pre6 enc Try.prog Try.f9 Rows.downTellsRow.domain false) (Rows.downTellsSpec.post enc Try.prog Try.f9 false true false false) := by
  refine returnsInHanded_of_change (C := Try.checked) own started (by kernel_rfl) Try.func9
    (ChangeSpec.witness6 (enc := enc) (C := Try.checked) false ⟨#[], #[.slice none 0 0, .int .i64 0, .int .i64 0, .int .i64 0], []⟩ 8 (by kernel_rfl) (by kernel_rfl) (by kernel_rfl) (by kernel_rfl)) ?_
  intro W base args ds gs before hval0 hW hcnd _
  have hval : ∀ (j : Nat) t v, Try.f9.params[j]? = some t → args[j]? = some v → Value.okWide Try.prog W .any base t v := hval0
  have hW' := hW
  obtain ⟨p, q, hA0, hV, rfl, hfz, hnd⟩ := hW
  have hA : DataW.TrodAll enc Try.prog W 0 (fun _ => true) true Try.f9.params.toList args.toList ds p := hA0
  rw [Try.params9] at hA hval
  have hA1 := hA
  obtain ⟨v0, vs0, d0, ds0, p0, q0, hargs, rfl, rfl, h0, r0⟩ := trodAll_cons hA
  obtain ⟨v1, vs1, d1, ds1, p1, q1, rfl, rfl, rfl, h1, r1⟩ := trodAll_cons r0
  obtain ⟨v2, vs2, d2, ds2, p2, q2, rfl, rfl, rfl, h2, r2⟩ := trodAll_cons r1
  obtain ⟨v3, vs3, d3, ds3, p3, q3, rfl, rfl, rfl, h3, r3⟩ := trodAll_cons r2
  obtain ⟨rfl, rfl, rfl⟩ := trodAll_nil r3
  obtain rfl : args = #[v0, v1, v2, v3] := by cases args; simp_all
  obtain ⟨rfl, rfl⟩ := trodVars_none hV
  obtain ⟨s0, n0, c0, rfl⟩ := okWide_slice Try.underlying22 (hval 0 22 v0 rfl rfl)
  obtain ⟨fu0, hx0⟩ := h0
  obtain ⟨rows0, sv0, kc0⟩ := open_slv (t := 22) (e := 35) (ks := [some .i64, some .i64, some .i64, some .i64]) (n := 5) Try.underlying22 (by kernel_rfl) (by kernel_rfl) (by kernel_rfl) (by decide) (v := .slice s0 n0 c0) (fuel := fu0) (by simpa [Value.cells] using hx0)
  obtain ⟨as0, rfl, qs0⟩ := rows_typedP (f := Dn.cells) (Q := (fun _ => True)) (fun cs hcs => dn_of (kc0 cs hcs))
  obtain ⟨a1, rfl, ha1⟩ := open_num Try.underlying3 (hval 1 3 v1 rfl rfl)
  obtain ⟨a2, rfl, ha2⟩ := open_num Try.underlying3 (hval 2 3 v2 rfl rfl)
  obtain ⟨a3, rfl, ha3⟩ := open_num Try.underlying3 (hval 3 3 v3 rfl rfl)
  clear hA0 hval0
  refine (downTells_walk (.slice s0 n0 c0) as0 a1 a2 a3 W sv0 qs0 ha1 ha2 ha3).mono fun e W' ⟨he, bel⟩ => ?_
  subst he
  exact ⟨_, rfl, _, _, _, [], _, [], hW', trodAll_mk1 (shut_bool Try.underlying4 _), trodAll_below laidOut bel (by kernel_rfl) hA1, rfl, bel.frame _, fun h => by cases h⟩

theorem over : Rows.downTellsRow.holds Try.pinned (OpenSpec.ofChange Rows.downTellsSpec) :=
  OpenClaim.holds_of_wide 9 Try.f9 rfl rfl rfl rfl rfl rfl rfl ⟨rfl, rfl, rfl, rfl, rfl⟩ rfl rfl rfl rfl rfl (by kernel_rfl) Try.func9 (by kernel_rfl)
    (of_decide_eq_true (by kernel_rfl)) (by unfold Func.isWrapper; rw [if_neg (of_decide_eq_false (by kernel_rfl))]; exact ⟨rfl, rfl⟩)
    (fun os started H enc _ => lifted os started H enc)

/-- THE STATEMENT. -/
theorem proved : Rows.DownTellsSaid := over

#print axioms proved
end Go.Proofs.Ytheifmdaladfdaa.downTells
