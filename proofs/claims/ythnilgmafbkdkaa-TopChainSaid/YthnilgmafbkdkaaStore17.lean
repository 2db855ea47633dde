/- TopChain: stores into a slice of the call's own; Hear and Tick by states. -/
import Derived.Test.YthnilgmafbkdkaaPlainChain
import Derived.Test.YthnilgmafbkdkaaCatch17
import Derived.Test.YthnilgmafbkdkaaHear
import Derived.Test.YthnilgmafbkdkaaTick
import Derived.Deep.MidRow
import Derived.Laws.OwnMore
namespace Go.Proofs.Ythnilgmafbkdkaa
open Go.RowKit

theorem ownsRow_setCells {base : Nat} {t : TypeId} {k n cap g : Nat} : ∀ (vs : List Value) (o : Nat) (w : World) (xs : List Value), w.ownsRow base t k (.slice (some ⟨g, 0, none⟩) n cap) n xs →
    ∃ ys, (w.setCells g o vs).ownsRow base t k (.slice (some ⟨g, 0, none⟩) n cap) n ys ∧ ys.length = xs.length ∧ (∀ j, ys[j]? = if o ≤ j ∧ j < o + vs.length ∧ j < xs.length then vs[j - o]? else xs[j]?) := by
  intro vs
  induction vs with
  | nil => exact fun o w xs h => ⟨xs, h, rfl, fun j => by rw [if_neg (by simp; omega)]⟩
  | cons v vs ih =>
    intro o w xs h
    obtain ⟨ys, h0, h1, h2⟩ := ih (o + 1) _ _ (h.stored o v).1
    refine ⟨ys, h0, by rw [h1, List.length_set], fun j => ?_⟩
    rw [h2 j, List.length_set]
    by_cases e : o = j
    · subst e
      rw [if_neg (by omega)]
      by_cases hj : o < xs.length
      · rw [if_pos (by simp; omega), List.getElem?_set_self hj]; simp
      · rw [if_neg (by omega), List.getElem?_eq_none (by rw [List.length_set]; omega), List.getElem?_eq_none (by omega)]
    · by_cases c : o + 1 ≤ j ∧ j < o + 1 + vs.length ∧ j < xs.length
      · rw [if_pos c, if_pos (by simp; omega), show j - o = (j - (o + 1)) + 1 by omega, List.getElem?_cons_succ]
      · rw [if_neg c, if_neg (by simp; omega), List.getElem?_set_ne e]
theorem flatT_set {α : Type} {L : Lay α} : ∀ (ls : List α) (i : Nat) (a : α), i < ls.length → ∀ j, (flatT L (ls.set i a))[j]? = if i * L.k ≤ j ∧ j < i * L.k + (L.f a).length ∧ j < (flatT L ls).length then (L.f a)[j - i * L.k]? else (flatT L ls)[j]?
  | [], i, a, h, j => by simp at h
  | s :: ls, 0, a, h, j => by
    rw [List.set_cons_zero, flatT, flatT, List.flatMap_cons, List.flatMap_cons]
    simp only [Nat.zero_mul, Nat.zero_le, true_and, Nat.zero_add, Nat.sub_zero, List.length_append, L.len]
    by_cases c : j < L.k
    · rw [if_pos ⟨c, by omega⟩, List.getElem?_append_left (by rw [L.len]; exact c)]
    · rw [if_neg (by omega), List.getElem?_append_right (by rw [L.len]; omega), List.getElem?_append_right (by rw [L.len]; omega), L.len, L.len]
  | s :: ls, i + 1, a, h, j => by
    have ih := flatT_set (L := L) ls i a (by simpa using h) (j - L.k)
    rw [List.set_cons_succ, flatT, flatT, List.flatMap_cons, List.flatMap_cons]
    rw [flatT, flatT] at ih
    have hk : (i + 1) * L.k = i * L.k + L.k := Nat.succ_mul i L.k
    by_cases c : j < L.k
    · rw [if_neg (by omega), List.getElem?_append_left (by rw [L.len]; exact c), List.getElem?_append_left (by rw [L.len]; exact c)]
    · rw [List.getElem?_append_right (by rw [L.len]; omega), List.getElem?_append_right (by rw [L.len]; omega), L.len, ih, L.len, List.length_append, L.len]
      by_cases d : i * L.k ≤ j - L.k ∧ j - L.k < i * L.k + L.k ∧ j - L.k < (List.flatMap L.f ls).length
      · rw [if_pos d, if_pos (by omega), show j - L.k - i * L.k = j - (i + 1) * L.k by omega]
      · rw [if_neg d, if_neg (by omega)]
theorem ownT_set {α : Type} {L : Lay α} {w : World} {base : Nat} {t : TypeId} {g cap n : Nat} {ls : List α} {i : Nat} (a : α) (h : w.ownsRow base t L.k (.slice (some ⟨g, 0, none⟩) n cap) n (flatT L ls)) (hi : i < ls.length) :
    (w.setCells g (0 + i * L.k) (L.f a)).ownsRow base t L.k (.slice (some ⟨g, 0, none⟩) n cap) n (flatT L (ls.set i a)) := by
  rw [Nat.zero_add]
  obtain ⟨ys, h0, h1, h2⟩ := ownsRow_setCells (L.f a) (i * L.k) w _ h
  have : ys = flatT L (ls.set i a) := List.ext_getElem? fun j => by rw [h2 j, flatT_set ls i a hi j]
  rw [← this]; exact h0
theorem ownT_there {α : Type} {L : Lay α} {w : World} {base : Nat} {t : TypeId} {g cap n : Nat} {ls : List α} {i : Nat} (h : w.ownsRow base t L.k (.slice (some ⟨g, 0, none⟩) n cap) n (flatT L ls)) (hi : i < ls.length) : w.there g (0 + i * L.k) L.k := fun j hj => by
  have h0 := h.1
  rw [flatT_len] at h0
  have h1 : (i + 1) * L.k ≤ ls.length * L.k := Nat.mul_le_mul_right _ hi
  rw [Nat.succ_mul] at h1
  refine ⟨?_, h.frozenAt _⟩
  rw [h.cellAt _ (by omega), List.getElem?_eq_getElem (by rw [flatT_len]; omega)]
  rfl
theorem below_setCells {B : Nat} {a : World} (b : Nat) (hb : B ≤ b) : ∀ (vs : List Value) (o : Nat) (w : World), Below B a w → Below B a (w.setCells b o vs)
  | [], _, _, h => h
  | _ :: vs, o, _, h => below_setCells b hb vs (o + 1) _ (belowSet h _ _ _ hb)

theorem ownsRow_belowW {w w' : World} {B k n : Nat} {t : TypeId} {v : Value} {xs : List Value} (h : w.ownsRow B t k v n xs) (hb : Below w.heap.size w w') : w'.ownsRow B t k v n xs := by
  obtain ⟨hl, h⟩ := h
  refine ⟨hl, ?_⟩
  rcases h with h | ⟨g, cap, cur, hv, hbg, hg, h1, h2, h3, h4⟩
  · exact .inl h
  · exact .inr ⟨g, cap, cur, hv, hbg, by rw [hb.block g (Array.getElem?_eq_some_iff.1 hg).1]; exact hg, h1, h2, h3, h4⟩

theorem hearS (u x : Stt) (f p b s c E : Int) (w : World) (h : hrE u.sy u.l u.h u.a u.k u.src u.he f p b s c = E ∧ nxtS u f p b s c = x) :
    Calls Try.prog 13 #[.agg #[.bool u.sy, .int .i64 u.l, .int .i64 u.h, .int .i64 u.a, .int .i64 u.k, .int .i64 u.src, .int .i64 u.he], .agg #[.int .i64 f, .int .i64 p, .int .i64 b, .int .i64 s, .int .i64 c]] w
      fun e w' => e = .returned (.tuple #[.agg #[.bool x.sy, .int .i64 x.l, .int .i64 x.h, .int .i64 x.a, .int .i64 x.k, .int .i64 x.src, .int .i64 x.he], .int .i64 E]) ∧ Below w.heap.size w w' := by
  obtain ⟨hE, hx⟩ := h
  subst hx
  cases hC : hrC u.sy u.l u.h u.a u.k u.src u.he f p b s c with
  | false =>
    rw [nxtS, if_neg (by rw [hC]; simp)]
    exact hear_same _ _ _ _ _ _ _ f p b s c E w hE hC
  | true =>
    obtain rfl : E = 0 := by rw [← hE]; exact (hr_newC hC).2.2.2.2
    rw [nxtS, if_pos hC]
    exact hear_new _ _ _ _ _ _ _ f p b s c _ _ _ w hC ⟨rfl, rfl, rfl⟩
theorem tickS (u x : Stt) (n : Int) (w : World) (h : tckS u n = x) :
    Calls Try.prog 15 #[.agg #[.bool u.sy, .int .i64 u.l, .int .i64 u.h, .int .i64 u.a, .int .i64 u.k, .int .i64 u.src, .int .i64 u.he], .int .i64 n] w
      fun e w' => e = .returned (.agg #[.bool x.sy, .int .i64 x.l, .int .i64 x.h, .int .i64 x.a, .int .i64 x.k, .int .i64 x.src, .int .i64 x.he]) ∧ Below w.heap.size w w' := by
  subst h
  cases hk : tkL u.sy u.l u.h u.a u.k u.src u.he n with
  | false => rw [tckS, if_neg (by rw [hk]; simp)]; exact tick_same _ _ _ _ _ _ _ n w hk
  | true => rw [tckS, if_pos hk]; exact tick_gone _ _ _ _ _ _ _ n w hk

end Go.Proofs.Ythnilgmafbkdkaa
