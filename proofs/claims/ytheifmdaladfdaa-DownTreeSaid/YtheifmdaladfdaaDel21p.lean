/- Plain facts for slices.DeleteFunc at routes: the row between two rounds. No program is in sight here. -/
import Derived.Test.YtheifmdaladfdaaClear21
namespace Go.Proofs.Ytheifmdaladfdaa

/-- The row at round j: what is kept of the first j, old ones up to j, the rest untouched. -/
def DelR (keep : Dn → Bool) (ls : List Dn) (j : Nat) (row qs mid : List Dn) : Prop := row = qs ++ mid ++ ls.drop j ∧ qs = (ls.take j).filter keep ∧ 0 < mid.length ∧ qs.length + mid.length = j
theorem delR_at {keep : Dn → Bool} {ls row qs mid : List Dn} {j : Nat} {d : Dn} (h : DelR keep ls j row qs mid) (hd : ls[j]? = some d) : row[j]? = some d := by
  obtain ⟨rfl, _, _, hl⟩ := h
  have hj := (List.getElem?_eq_some_iff.1 hd).1
  rw [List.getElem?_append_right (by rw [List.length_append]; omega), List.length_append, hl, Nat.sub_self, List.drop_eq_getElem_cons hj]
  simpa using hd
theorem delR_keep {keep : Dn → Bool} {ls row qs mid : List Dn} {j : Nat} {d : Dn} (h : DelR keep ls j row qs mid) (hd : ls[j]? = some d) (hk : keep d = true) : ∃ mid', DelR keep ls (j + 1) (row.set qs.length d) (qs ++ [d]) mid' := by
  obtain ⟨rfl, hq, hm, hl⟩ := h
  have hj := (List.getElem?_eq_some_iff.1 hd).1
  have he : ls[j] = d := (List.getElem?_eq_some_iff.1 hd).2
  cases mid with
  | nil => simp at hm
  | cons m mid =>
    refine ⟨mid ++ [d], ?_, ?_, by simp, by simp at hl ⊢; omega⟩
    · rw [List.drop_eq_getElem_cons hj, he]
      simp [List.set_append_right]
    · rw [List.take_succ_eq_append_getElem hj, he, List.filter_append, ← hq]; simp [hk]
theorem delR_drop {keep : Dn → Bool} {ls row qs mid : List Dn} {j : Nat} {d : Dn} (h : DelR keep ls j row qs mid) (hd : ls[j]? = some d) (hk : keep d = false) : ∃ mid', DelR keep ls (j + 1) row qs mid' := by
  obtain ⟨rfl, hq, hm, hl⟩ := h
  have hj := (List.getElem?_eq_some_iff.1 hd).1
  have he : ls[j] = d := (List.getElem?_eq_some_iff.1 hd).2
  refine ⟨mid ++ [d], ?_, ?_, by simp, by simp; omega⟩
  · rw [List.drop_eq_getElem_cons hj, he]; simp
  · rw [List.take_succ_eq_append_getElem hj, he, List.filter_append, ← hq]; simp [hk]

end Go.Proofs.Ytheifmdaladfdaa
