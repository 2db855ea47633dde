/- Plain facts for Tell: zeros stored into the cells of a list of routes. No program is in sight here. -/
import Derived.Test.YtheifmdaladfdaaMake21b
import Derived.Test.YtheifmdaladfdaaPlain21b
namespace Go.Proofs.Ytheifmdaladfdaa

theorem set_tel : ∀ (l : List Dn) (i : Nat) (d : Dn), l[i]? = some d → ((flatT dnL l).set (i * 4 + 1) (.int .i64 0)).set (i * 4 + 3) (.int .i64 0) = flatT dnL (l.set i (telD d))
  | [], i, d, h => by simp at h
  | x :: l, 0, d, h => by
    obtain rfl : x = d := by simpa using h
    rfl
  | x :: l, i + 1, d, h => by
    have ih := set_tel l i d (by simpa using h)
    have e : flatT dnL (x :: l) = .int .i64 x.t :: .int .i64 x.n :: .int .i64 x.s :: .int .i64 x.u :: flatT dnL l := rfl
    have e2 : flatT dnL ((x :: l).set (i + 1) (telD d)) = .int .i64 x.t :: .int .i64 x.n :: .int .i64 x.s :: .int .i64 x.u :: flatT dnL (l.set i (telD d)) := rfl
    rw [e, e2, show (i + 1) * 4 + 1 = (i * 4 + 1) + 1 + 1 + 1 + 1 by omega, show (i + 1) * 4 + 3 = (i * 4 + 3) + 1 + 1 + 1 + 1 by omega]
    simp only [List.set_cons_succ, ih]
def mixL (ls : List Dn) (i : Nat) : List Dn := (ls.take i).map telD ++ ls.drop i
theorem mix_len (ls : List Dn) (i : Nat) : (mixL ls i).length = ls.length := by simp [mixL]; omega
theorem mix_zero (ls : List Dn) : mixL ls 0 = ls := by simp [mixL]
theorem mix_end {ls : List Dn} {i : Nat} (h : ls.length ≤ i) : mixL ls i = ls.map telD := by simp [mixL, List.take_of_length_le h, List.drop_of_length_le h]
theorem mix_at {ls : List Dn} {i : Nat} {d : Dn} (h : ls[i]? = some d) : (mixL ls i)[i]? = some d ∧ (mixL ls i).set i (telD d) = mixL ls (i + 1) := by
  have hl : i < ls.length := (List.getElem?_eq_some_iff.1 h).1
  have hd : ls[i] = d := (List.getElem?_eq_some_iff.1 h).2
  have e : ((ls.take i).map telD).length = i := by simp; omega
  constructor
  · rw [mixL, List.getElem?_append_right (by omega), e, Nat.sub_self, List.drop_eq_getElem_cons hl, hd]; rfl
  · rw [mixL, mixL, List.set_append_right _ _ (by omega), e, Nat.sub_self, List.drop_eq_getElem_cons hl, List.set_cons_zero, List.take_succ_eq_append_getElem hl, List.map_append, hd, List.append_assoc]; rfl

end Go.Proofs.Ytheifmdaladfdaa
