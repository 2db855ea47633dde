/- Stores into a row of the call's own. -/
import Derived.Test.YtheifmdaladfdaaDel21p
import Derived.Deep.MidRow
import Derived.Laws.OwnMore
namespace Go.Proofs.Ytheifmdaladfdaa
open Go.RowKit

theorem ownsRow_setCells {base : Nat} {t : TypeId} {k n cap g : Nat} : ∀ (vs : List Value) (o : Nat) (w : World) (xs : List Value), w.ownsRow base t k (.slice (some ⟨g, 0, none⟩) n cap) n xs →
    ∃ ys, (w.setCells g o vs).ownsRow base t k (.slice (some ⟨g, 0, none⟩) n cap) n ys ∧ ys.length = xs.length ∧ (∀ j, ys[j]? = if o ≤ j ∧ j < o + vs.length ∧ j < xs.length then vs[j - o]? else xs[j]?) := by
  intro vs
  induction vs with
  | nil => exact fun o w xs h => ⟨xs, h, rfl, fun j => by rw [if_neg (by simp; omega)]⟩
  | cons v vs ih =>
    intro o w xs h
    obtain ⟨ys, h0, h1, h2⟩ := ih (o + 1) _ _ (h.stored o v).1
    refine ⟨ys, h0, by rw [h1, List.length_set], fun j => ?_⟩
    rw [h2 j, List.length_set]
    by_cases e : o = j
    · subst e
      rw [if_neg (by omega)]
      by_cases hj : o < xs.length
      · rw [if_pos (by simp; omega), List.getElem?_set_self hj]; simp
      · rw [if_neg (by omega), List.getElem?_eq_none (by rw [List.length_set]; omega), List.getElem?_eq_none (by omega)]
    · by_cases c : o + 1 ≤ j ∧ j < o + 1 + vs.length ∧ j < xs.length
      · rw [if_pos c, if_pos (by simp; omega), show j - o = (j - (o + 1)) + 1 by omega, List.getElem?_cons_succ]
      · rw [if_neg c, if_neg (by simp; omega), List.getElem?_set_ne e]
theorem flatT_set {α : Type} {L : Lay α} : ∀ (ls : List α) (i : Nat) (a : α), i < ls.length → ∀ j, (flatT L (ls.set i a))[j]? = if i * L.k ≤ j ∧ j < i * L.k + (L.f a).length ∧ j < (flatT L ls).length then (L.f a)[j - i * L.k]? else (flatT L ls)[j]?
  | [], i, a, h, j => by simp at h
  | s :: ls, 0, a, h, j => by
    rw [List.set_cons_zero, flatT, flatT, List.flatMap_cons, List.flatMap_cons]
    simp only [Nat.zero_mul, Nat.zero_le, true_and, Nat.zero_add, Nat.sub_zero, List.length_append, L.len]
    by_cases c : j < L.k
    · rw [if_pos ⟨c, by omega⟩, List.getElem?_append_left (by rw [L.len]; exact c)]
    · rw [if_neg (by omega), List.getElem?_append_right (by rw [L.len]; omega), List.getElem?_append_right (by rw [L.len]; omega), L.len, L.len]
  | s :: ls, i + 1, a, h, j => by
    have ih := flatT_set (L := L) ls i a (by simpa using h) (j - L.k)
    rw [List.set_cons_succ, flatT, flatT, List.flatMap_cons, List.flatMap_cons]
    rw [flatT, flatT] at ih
    have hk : (i + 1) * L.k = i * L.k + L.k := Nat.succ_mul i L.k
    by_cases c : j < L.k
    · rw [if_neg (by omega), List.getElem?_append_left (by rw [L.len]; exact c), List.getElem?_append_left (by rw [L.len]; exact c)]
    · rw [List.getElem?_append_right (by rw [L.len]; omega), List.getElem?_append_right (by rw [L.len]; omega), L.len, ih, L.len, List.length_append, L.len]
      by_cases d : i * L.k ≤ j - L.k ∧ j - L.k < i * L.k + L.k ∧ j - L.k < (List.flatMap L.f ls).length
      · rw [if_pos d, if_pos (by omega), show j - L.k - i * L.k = j - (i + 1) * L.k by omega]
      · rw [if_neg d, if_neg (by omega)]
theorem ownT_set {α : Type} {L : Lay α} {w : World} {base : Nat} {t : TypeId} {g cap n : Nat} {ls : List α} {i : Nat} (a : α) (h : w.ownsRow base t L.k (.slice (some ⟨g, 0, none⟩) n cap) n (flatT L ls)) (hi : i < ls.length) :
    (w.setCells g (0 + i * L.k) (L.f a)).ownsRow base t L.k (.slice (some ⟨g, 0, none⟩) n cap) n (flatT L (ls.set i a)) := by
  rw [Nat.zero_add]
  obtain ⟨ys, h0, h1, h2⟩ := ownsRow_setCells (L.f a) (i * L.k) w _ h
  have : ys = flatT L (ls.set i a) := List.ext_getElem? fun j => by rw [h2 j, flatT_set ls i a hi j]
  rw [← this]; exact h0
theorem ownT_there {α : Type} {L : Lay α} {w : World} {base : Nat} {t : TypeId} {g cap n : Nat} {ls : List α} {i : Nat} (h : w.ownsRow base t L.k (.slice (some ⟨g, 0, none⟩) n cap) n (flatT L ls)) (hi : i < ls.length) : w.there g (0 + i * L.k) L.k := fun j hj => by
  have h0 := h.1
  rw [flatT_len] at h0
  have h1 : (i + 1) * L.k ≤ ls.length * L.k := Nat.mul_le_mul_right _ hi
  rw [Nat.succ_mul] at h1
  refine ⟨?_, h.frozenAt _⟩
  rw [h.cellAt _ (by omega), List.getElem?_eq_getElem (by rw [flatT_len]; omega)]
  rfl
theorem below_setCells {B : Nat} {a : World} (b : Nat) (hb : B ≤ b) : ∀ (vs : List Value) (o : Nat) (w : World), Below B a w → Below B a (w.setCells b o vs)
  | [], _, _, h => h
  | _ :: vs, o, _, h => below_setCells b hb vs (o + 1) _ (belowSet' h _ _ _ hb)

theorem ownsRow_front {w : World} {B k n m cap g : Nat} {t : TypeId} {xs : List Value} (h : w.ownsRow B t k (.slice (some ⟨g, 0, none⟩) n cap) n xs) (hm : m ≤ n) : w.ownsRow B t k (.slice (some ⟨g, 0, none⟩) m cap) m (xs.take (m * k)) := by
  obtain ⟨hl, h⟩ := h
  have hmk : m * k ≤ n * k := Nat.mul_le_mul_right _ hm
  rcases h with ⟨h, _⟩ | ⟨g', cap', cur, hv, hbg, hg, h1, h2, h3, h4⟩
  · cases h
  · injection hv with e1 e2 e3
    injection e1 with e1
    injection e1 with e1 _ _
    subst e1 e3
    exact ⟨by rw [List.length_take]; omega, .inr ⟨g, cap, cur, rfl, hbg, hg, by omega, h2, h3, by rw [← h4, List.take_take, Nat.min_eq_left hmk]⟩⟩
theorem info_dnS : (Try.prog.info? 35).map (·.size) = some 4 := by kernel_rfl
theorem storeD {ops : Array Oper} {rest : List Oper} {op : Oper} {a : Act} {w : World} {Q : Exit → Act → World → Prop} (z : Dn) (b o : Nat) (hgd : op.guard = none)
    (hs : ∃ x y : Operand, op.op = .store 35 x y ∧ a.eval x = .pointer (some ⟨b, o, none⟩) ∧ a.eval y = .agg #[.int .i64 z.t, .int .i64 z.n, .int .i64 z.s, .int .i64 z.u]) (ht : w.there b o 4)
    (h : wpList Try.prog ops Q rest (a.put op.dst undef) (w.setCells b o (dnL.f z))) : wpList Try.prog ops Q (op :: rest) a w := by
  obtain ⟨x, y, ho, hx, hy⟩ := hs
  exact wpList_store_mid hgd 35 x y ho b o #[.int .i64 z.t, .int .i64 z.n, .int .i64 z.s, .int .i64 z.u] hx hy ht info_dnS (by simp [Value.oneCell']) h

end Go.Proofs.Ytheifmdaladfdaa
