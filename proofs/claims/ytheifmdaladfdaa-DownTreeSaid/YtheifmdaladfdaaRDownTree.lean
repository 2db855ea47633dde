/- DownTree: from the walk of the Go function to the given statement, for every input. No condition beyond the statement. -/
import Derived.Test.YtheifmdaladfdaaRows
import Derived.Test.YtheifmdaladfdaaKit
import Derived.SizedLaws
import Derived.Deep.Slices
import Derived.Test.YtheifmdaladfdaaDownTree
namespace Go.Proofs.Ytheifmdaladfdaa.downTree
open Go.ChangeShapes Go.WideShapes Go.ChangeAt Go.RowKit
set_option linter.unusedVariables false

theorem own : ownKnob Try.prog.godebug = none := by kernel_rfl
theorem laidOut : laidOutB Try.prog = true := by kernel_rfl

theorem slice_bound {H : Type} {enc : TypeId × Value → H} {P : Program} {w : World} {base : Nat} {spare : Nat → Bool} {held : Bool} {t e : TypeId} {ts : List TypeId} {a : Option Addr} {len cap fuel : Nat} {x : DataW H × List MemPlace} {ds : List (DataW H)} (ht : P.underlying t = some (.slice e)) (hB : 0 < P.bytesOf e)
    (hx : DataW.trod enc P w base spare held fuel t [.slice a len cap] = some x) (hw : (DataW.weightsEach P (t :: ts) (x.1 :: ds)).all (· ≤ reachBytes) = true) : len ≤ reachBytes := by
  rcases Go.Deep.open_slice ht hx with ⟨h0, _⟩ | ⟨a', len', cap', m, n, D, Pl, hcs, _, _, _, _, hx2, _⟩
  · simp at h0
    omega
  · obtain ⟨_, rfl, _⟩ : a = some a' ∧ len = len' ∧ cap = cap' := by simpa using hcs
    subst hx2
    simp only [DataW.weightsEach, DataW.weights, ht, List.cons_append, List.all_cons, Bool.and_eq_true, decide_eq_true_eq, List.length_map, List.length_range] at hw
    exact Nat.le_trans (Nat.le_trans (Nat.le_add_right len _) (Nat.le_mul_of_pos_right _ hB)) hw.1

set_option maxRecDepth 100000 in
theorem lifted (os : Os) (started : os.Started) (H : Type) (enc : TypeId × Value → H) :
    ReturnsInHanded {} Try.checked os 6 .any (Rows.downTreeSpec.pre6 enc Try.prog Try.f6 Rows.downTreeRow.domain false) (Rows.downTreeSpec.post enc Try.prog Try.f6 false true false false) := by
  refine returnsInHanded_of_change_sized (C := Try.checked) own started (by kernel_rfl) Try.func6
    (ChangeSpec.witness6 (enc := enc) (C := Try.checked) false ⟨#[], #[.slice none 0 0, .slice none 0 0, .int .i64 0], []⟩ 8 (by kernel_rfl) (by kernel_rfl) (by kernel_rfl) (by kernel_rfl)) ?_
  intro W base args ds gs before hval0 hW hcnd hsz _
  have hval : ∀ (j : Nat) t v, Try.f6.params[j]? = some t → args[j]? = some v → Value.okWide Try.prog W .any base t v := hval0
  have hW' := hW
  obtain ⟨p, q, hA0, hV, rfl, hfz, hnd⟩ := hW
  have hA : DataW.TrodAll enc Try.prog W 0 (fun _ => true) true Try.f6.params.toList args.toList ds p := hA0
  rw [Try.params6] at hA hval hsz
  have hA1 := hA
  obtain ⟨v0, vs0, d0, ds0, p0, q0, hargs, rfl, rfl, h0, r0⟩ := trodAll_cons hA
  obtain ⟨v1, vs1, d1, ds1, p1, q1, rfl, rfl, rfl, h1, r1⟩ := trodAll_cons r0
  obtain ⟨v2, vs2, d2, ds2, p2, q2, rfl, rfl, rfl, h2, r2⟩ := trodAll_cons r1
  obtain ⟨rfl, rfl, rfl⟩ := trodAll_nil r2
  obtain rfl : args = #[v0, v1, v2] := by cases args; simp_all
  obtain ⟨rfl, rfl⟩ := trodVars_none hV
  obtain ⟨s0, n0, c0, rfl⟩ := okWide_slice Try.underlying38 (hval 0 38 v0 rfl rfl)
  obtain ⟨fu0, hx0⟩ := h0
  obtain ⟨rows0, sv0, kc0⟩ := open_slv (t := 38) (e := 5) (ks := [some .u8]) (n := 5) Try.underlying38 (by kernel_rfl) (by kernel_rfl) (by kernel_rfl) (by decide) (v := .slice s0 n0 c0) (fuel := fu0) (by simpa [Value.cells] using hx0)
  obtain ⟨as0, rfl, qs0⟩ := rows_typedP (f := chL.f) (Q := (fun a => 0 ≤ a ∧ a < 256)) (fun cs hcs => ch_of (kc0 cs hcs))
  obtain ⟨s1, n1, c1, rfl⟩ := okWide_slice Try.underlying40 (hval 1 40 v1 rfl rfl)
  obtain ⟨fu1, hx1⟩ := h1
  obtain ⟨rows1, sv1, kc1⟩ := open_slv (t := 40) (e := 43) (ks := [some .u16]) (n := 5) Try.underlying40 (by kernel_rfl) (by kernel_rfl) (by kernel_rfl) (by decide) (v := .slice s1 n1 c1) (fuel := fu1) (by simpa [Value.cells] using hx1)
  obtain ⟨as1, rfl, qs1⟩ := rows_typedP (f := shL.f) (Q := (fun a => 0 ≤ a ∧ a < 65536)) (fun cs hcs => sh_of (kc1 cs hcs))
  obtain ⟨a2, rfl, ha2⟩ := open_num Try.underlying3 (hval 2 3 v2 rfl rfl)
  have hlen : n0 ≤ reachBytes := slice_bound Try.underlying38 (by decide +kernel) (x := (d0, p0)) (by simpa [Value.cells] using hx0) hsz
  have hpl : (as0.length : Int) ≤ 1000000000000000000 := by
    obtain ⟨_, _, e, _⟩ := SlT.form (L := chL) as0.length sv0 rfl
    injection e with _ e2 _
    unfold reachBytes at hlen
    omega
  clear hA0 hval0
  refine (downTree_walk (.slice s0 n0 c0) as0 (.slice s1 n1 c1) as1 a2 W sv0 qs0 sv1 qs1 ha2 hpl).mono fun e W' ⟨he, bel⟩ => ?_
  subst he
  exact ⟨_, rfl, _, _, _, [], _, [], hW', trodAll_mk1 (shut_bool Try.underlying4 _), trodAll_below laidOut bel (by kernel_rfl) hA1, rfl, bel.frame _, fun h => by cases h⟩

theorem over : Rows.downTreeRow.holds Try.pinned (OpenSpec.ofChange Rows.downTreeSpec) :=
  OpenClaim.holds_of_wide 6 Try.f6 rfl rfl rfl rfl rfl rfl rfl ⟨rfl, rfl, rfl, rfl, rfl⟩ rfl rfl rfl rfl rfl (by kernel_rfl) Try.func6 (by kernel_rfl)
    (of_decide_eq_true (by kernel_rfl)) (by unfold Func.isWrapper; rw [if_neg (of_decide_eq_false (by kernel_rfl))]; exact ⟨rfl, rfl⟩)
    (fun os started H enc _ => lifted os started H enc)

/-- THE STATEMENT. -/
theorem proved : Rows.DownTreeSaid := over

#print axioms proved
end Go.Proofs.Ytheifmdaladfdaa.downTree
