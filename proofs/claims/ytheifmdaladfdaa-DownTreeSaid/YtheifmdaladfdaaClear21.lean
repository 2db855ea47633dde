/- clear of a slice of routes. -/
import Derived.Test.YtheifmdaladfdaaTell21
import Derived.Lib.SliceRun
namespace Go.Proofs.Ytheifmdaladfdaa
open Go.RowKit

theorem zeroCells4 (n : Nat) : (Builtin.zeroCells #[.int .i64 0, .int .i64 0, .int .i64 0, .int .i64 0] n).toList = List.replicate (n * 4) (.int .i64 0) := by
  simp only [Builtin.zeroCells]
  apply List.ext_getElem
  · simp
  · intro i h1 h2
    have h : i % 4 < 4 := Nat.mod_lt _ (by decide)
    simp only [List.getElem_replicate, Array.toList_map, List.getElem_map, Array.getElem_toList, Array.getElem_range]
    generalize hm : i % 4 = m at h
    match m, h with
    | 0, _ => rfl
    | 1, _ => rfl
    | 2, _ => rfl
    | 3, _ => rfl
theorem run_clear_D (w : World) (ty : TypeId) (b o n c : Nat) (hn : 0 < n) (hc : ∀ j, j < n * 4 → (w.cell? ⟨b, o + j, none⟩).isSome = true) (hf : ∀ j, j < n * 4 → w.frozen? ⟨b, o + j, none⟩ = false) :
    (Builtin.clear_ #[22] ty #[.slice (some ⟨b, o, none⟩) n c]).run Try.prog w = .ok (.tuple #[]) (w.setCells b o (List.replicate (n * 4) (.int .i64 0))) := by
  have hst := run_storeCells_cells (P := Try.prog) b o (List.replicate (n * 4) (.int .i64 0)) 0 w (by simpa using hc) (by simpa using hf) (by intro v hv'; rw [List.eq_of_mem_replicate hv']; rfl)
  simp only [Nat.add_zero] at hst
  have hz := zeroCells4 n
  obtain ⟨m, rfl⟩ : ∃ m, n = m + 1 := ⟨n - 1, by omega⟩
  have hv : ∀ w, (zeroValue 35).run Try.prog w = .ok (.agg #[.int .i64 0, .int .i64 0, .int .i64 0, .int .i64 0]) w := fun w => Try.zeroValue35 w
  simp [Builtin.clear_, run_underlying Try.underlying22, hv, Value.cells, hz, hst]

end Go.Proofs.Ytheifmdaladfdaa
