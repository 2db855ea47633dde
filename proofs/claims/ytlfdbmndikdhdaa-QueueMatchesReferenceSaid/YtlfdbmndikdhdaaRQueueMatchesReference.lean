/- QueueMatchesReference: from the walk of the Go function to the given statement, for every input. No condition beyond the statement. -/
import Derived.Test.YtlfdbmndikdhdaaRows
import Derived.Test.YtlfdbmndikdhdaaKit
import Derived.Test.YtlfdbmndikdhdaaQueueMatchesReference
namespace Go.Proofs.Ytlfdbmndikdhdaa.queueMatchesReference
open Go.ChangeShapes Go.WideShapes Go.ChangeAt Go.RowKit
set_option linter.unusedVariables false

theorem own : ownKnob Try.prog.godebug = none := by kernel_rfl
theorem laidOut : laidOutB Try.prog = true := by kernel_rfl

set_option maxRecDepth 100000 in
theorem lifted (os : Os) (started : os.Started) (H : Type) (enc : TypeId × Value → H) :
    ReturnsInHanded {} Try.checked os 3 .any (Rows.queueMatchesReferenceSpec.pre6 enc Try.prog Try.f3 Rows.queueMatchesReferenceRow.domain false) (Rows.queueMatchesReferenceSpec.post enc Try.prog Try.f3 false true false false) := by
  refine returnsInHanded_of_change (C := Try.checked) own started (by kernel_rfl) Try.func3
    (ChangeSpec.witness6 (enc := enc) (C := Try.checked) false ⟨#[], #[.agg #[.slice none 0 0], .agg #[.int .i64 0, .int .i64 0, .int .i64 0, .int .i64 0, .int .i64 0], .int .i64 0, .int .i64 0, .int .i64 0], []⟩ 8 (by kernel_rfl) (by kernel_rfl) (by kernel_rfl) (by kernel_rfl)) ?_
  intro W base args ds gs before hval0 hW hcnd _
  have hval : ∀ (j : Nat) t v, Try.f3.params[j]? = some t → args[j]? = some v → Value.okWide Try.prog W .any base t v := hval0
  have hW' := hW
  obtain ⟨p, q, hA0, hV, rfl, hfz, hnd⟩ := hW
  have hA : DataW.TrodAll enc Try.prog W 0 (fun _ => true) true Try.f3.params.toList args.toList ds p := hA0
  rw [Try.params3] at hA hval
  have hA1 := hA
  obtain ⟨v0, vs0, d0, ds0, p0, q0, hargs, rfl, rfl, h0, r0⟩ := trodAll_cons hA
  obtain ⟨v1, vs1, d1, ds1, p1, q1, rfl, rfl, rfl, h1, r1⟩ := trodAll_cons r0
  obtain ⟨v2, vs2, d2, ds2, p2, q2, rfl, rfl, rfl, h2, r2⟩ := trodAll_cons r1
  obtain ⟨v3, vs3, d3, ds3, p3, q3, rfl, rfl, rfl, h3, r3⟩ := trodAll_cons r2
  obtain ⟨v4, vs4, d4, ds4, p4, q4, rfl, rfl, rfl, h4, r4⟩ := trodAll_cons r3
  obtain ⟨rfl, rfl, rfl⟩ := trodAll_nil r4
  obtain rfl : args = #[v0, v1, v2, v3, v4] := by cases args; simp_all
  obtain ⟨rfl, rfl⟩ := trodVars_none hV
  obtain ⟨u0, rows0, rfl, sl0⟩ := open_queue (tq := 24) (ts := 22) (te := 26) (ks := [.i64, .i64, .i64, .i64, .i64]) Try.underlying24 rfl rfl (by kernel_rfl) (by kernel_rfl) (by simp) (by kernel_rfl) (hval 0 24 v0 rfl rfl) h0
  obtain ⟨sr0, nk0, ri0⟩ := slr_of_sl sl0
  obtain ⟨l1, rfl, k1⟩ := open_flat (ts := [3, 3, 3, 3, 3]) (ks := [some .i64, some .i64, some .i64, some .i64, some .i64]) Try.underlying26 (by kernel_rfl) (by kernel_rfl) (by kernel_rfl) (hval 1 26 v1 rfl rfl)
  simp only [okCells] at k1
  obtain ⟨a1_0, t1_0, rfl, ha1_0, a1_1, t1_1, rfl, ha1_1, a1_2, t1_2, rfl, ha1_2, a1_3, t1_3, rfl, ha1_3, a1_4, t1_4, rfl, ha1_4, rfl⟩ := k1
  obtain ⟨a2, rfl, ha2⟩ := open_num Try.underlying3 (hval 2 3 v2 rfl rfl)
  obtain ⟨a3, rfl, ha3⟩ := open_num Try.underlying3 (hval 3 3 v3 rfl rfl)
  obtain ⟨a4, rfl, ha4⟩ := open_num Try.underlying3 (hval 4 3 v4 rfl rfl)
  clear hA0 hval0
  refine (queueMatchesReference_walk u0 (rows0.map rdOf) a1_0 a1_1 a1_2 a1_3 a1_4 a2 a3 a4 W sr0 nk0 ri0 ha1_0 ha1_1 ha1_2 ha1_3 ha1_4 ha2 ha3 ha4).mono fun e W' ⟨he, bel⟩ => ?_
  subst he
  exact ⟨_, rfl, _, _, _, [], _, [], hW', trodAll_mk1 (shut_bool Try.underlying4 _), trodAll_below laidOut bel (by kernel_rfl) hA1, rfl, bel.frame _, fun h => by cases h⟩

theorem over : Rows.queueMatchesReferenceRow.holds Try.pinned (OpenSpec.ofChange Rows.queueMatchesReferenceSpec) :=
  OpenClaim.holds_of_wide 3 Try.f3 rfl rfl rfl rfl rfl rfl rfl ⟨rfl, rfl, rfl, rfl, rfl⟩ rfl rfl rfl rfl rfl (by kernel_rfl) Try.func3 (by kernel_rfl)
    (of_decide_eq_true (by kernel_rfl)) (by unfold Func.isWrapper; rw [if_neg (of_decide_eq_false (by kernel_rfl))]; exact ⟨rfl, rfl⟩)
    (fun os started H enc _ => lifted os started H enc)

/-- THE STATEMENT. -/
theorem proved : Rows.QueueMatchesReferenceSaid := over

#print axioms proved
end Go.Proofs.Ytlfdbmndikdhdaa.queueMatchesReference
