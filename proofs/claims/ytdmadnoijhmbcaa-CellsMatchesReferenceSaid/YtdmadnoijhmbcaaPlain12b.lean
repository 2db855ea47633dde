/- Plain facts about additions to tables of cells. No program is in sight here. -/
import Derived.Test.YtdmadnoijhmbcaaPlain12
namespace Go.Proofs.Ytdmadnoijhmbcaa
open Go.RowKit

section
variable {α : Type}
/-- An entry put ahead of the first that a test finds. -/
def insL (q : α → Bool) (x : α) : List α → List α
  | [] => [x]
  | a :: l => if q a = true then x :: a :: l else a :: insL q x l
theorem insL_none {q : α → Bool} {x : α} : ∀ {l : List α}, l.any q = false → insL q x l = l ++ [x]
  | [], _ => rfl
  | a :: l, h => by
    simp only [List.any_cons, Bool.or_eq_false_iff] at h
    simp [insL, h.1, insL_none h.2]
theorem insL_some {q : α → Bool} {x r : α} : ∀ {l : List α} {k : Nat}, l[k]? = some r → q r = true → (l.take k).any q = false → insL q x l = l.take k ++ x :: l.drop k
  | [], k, h, _, _ => by simp at h
  | a :: l, 0, h, hq, _ => by
    simp at h; subst h; simp [insL, hq]
  | a :: l, k + 1, h, hq, hp => by
    simp only [List.take_succ_cons, List.any_cons, Bool.or_eq_false_iff] at hp
    have ih := insL_some (x := x) (l := l) (k := k) (by simpa using h) hq hp.2
    simp [insL, hp.1, ih]
theorem mem_insL {q : α → Bool} {x d : α} : ∀ {l : List α}, d ∈ insL q x l ↔ d = x ∨ d ∈ l
  | [] => by simp [insL]
  | a :: l => by
    unfold insL
    cases h : q a with
    | true => simp
    | false =>
      simp only [Bool.false_eq_true, if_false, List.mem_cons, mem_insL (l := l)]
      constructor
      · rintro (h | h | h) <;> simp [h]
      · rintro (h | h | h) <;> simp [h]
theorem length_insL {q : α → Bool} {x : α} : ∀ {l : List α}, (insL q x l).length = l.length + 1
  | [] => rfl
  | a :: l => by
    unfold insL
    cases h : q a with
    | true => simp
    | false => simp [length_insL (l := l)]
/-- In order of a slot. -/
def Srt (sl : α → Int) (l : List α) : Prop := l.Pairwise (fun a b => sl a < sl b)
theorem srt_ext {sl : α → Int} : ∀ {l m : List α}, Srt sl l → Srt sl m → (∀ d, d ∈ l ↔ d ∈ m) → l = m
  | [], [], _, _, _ => rfl
  | [], b :: m, _, _, h => by have := (h b).2 (by simp); simp at this
  | a :: l, [], _, _, h => by have := (h a).1 (by simp); simp at this
  | a :: l, b :: m, h1, h2, h => by
    obtain ⟨p1, q1⟩ := List.pairwise_cons.1 h1
    obtain ⟨p2, q2⟩ := List.pairwise_cons.1 h2
    have ha := (h a).1 (by simp)
    have hb := (h b).2 (by simp)
    simp only [List.mem_cons] at ha hb
    obtain rfl : a = b := by
      rcases ha with ha | ha
      · exact ha
      · rcases hb with hb | hb
        · exact hb.symm
        · have := p1 _ hb; have := p2 _ ha; omega
    rw [srt_ext q1 q2 fun d => ?_]
    have hd := h d
    simp only [List.mem_cons] at hd
    constructor
    · intro hm
      rcases hd.1 (Or.inr hm) with e | hm'
      · subst e; have := p1 _ hm; omega
      · exact hm'
    · intro hm
      rcases hd.2 (Or.inr hm) with e | hm'
      · subst e; have := p2 _ hm; omega
      · exact hm'
theorem srt_insL {sl : α → Int} {x : α} : ∀ {l : List α}, Srt sl l → (∀ d ∈ l, sl d ≠ sl x) → Srt sl (insL (fun d => decide (sl x < sl d)) x l)
  | [], _, _ => List.pairwise_singleton _ _
  | a :: l, h, hn => by
    obtain ⟨p, q⟩ := List.pairwise_cons.1 h
    have h0 := hn a (by simp)
    unfold insL
    by_cases hx : sl x < sl a
    · rw [if_pos (by simpa using hx)]
      exact List.pairwise_cons.2 ⟨fun b hb => by
        rcases List.mem_cons.1 hb with rfl | hb
        · exact hx
        · have := p _ hb; omega, h⟩
    · rw [if_neg (by simpa using hx)]
      refine List.pairwise_cons.2 ⟨fun b hb => ?_, srt_insL q fun d hd => hn d (by simp [hd])⟩
      rcases mem_insL.1 hb with rfl | hb
      · omega
      · exact p _ hb
theorem srt_filter {sl : α → Int} {q : α → Bool} {l : List α} (h : Srt sl l) : Srt sl (l.filter q) := List.Pairwise.filter q h
/-- What the reference's addition builds: slot by slot. -/
def rinsL (sl : α → Int) (x : α) (D : Nat) (l : List α) : List α := (List.range D).flatMap fun (s : Nat) => l.filter (fun d => sl d == (s : Int)) ++ if (sl x == (s : Int)) = true then [x] else []
theorem rinsL_succ (sl : α → Int) (x : α) (D : Nat) (l : List α) : rinsL sl x (D + 1) l = rinsL sl x D l ++ (l.filter (fun d => sl d == (D : Int)) ++ if (sl x == (D : Int)) = true then [x] else []) := by
  simp [rinsL, List.range_succ]
theorem mem_rinsL {sl : α → Int} {x d : α} {l : List α} : ∀ {D : Nat}, d ∈ rinsL sl x D l ↔ (d ∈ l ∨ d = x) ∧ 0 ≤ sl d ∧ sl d < D
  | 0 => by simp [rinsL]
  | D + 1 => by
    rw [rinsL_succ, List.mem_append, mem_rinsL, List.mem_append, List.mem_filter]
    by_cases hx : (sl x == (D : Int)) = true
    · rw [if_pos hx]
      rw [beq_iff_eq] at hx
      simp only [List.mem_singleton, beq_iff_eq]
      constructor
      · rintro (⟨h, h1, h2⟩ | ⟨h, h1⟩ | rfl)
        · exact ⟨h, h1, by omega⟩
        · exact ⟨Or.inl h, by omega, by omega⟩
        · exact ⟨Or.inr rfl, by omega, by omega⟩
      · rintro ⟨h, h1, h2⟩
        by_cases e : sl d = D
        · rcases h with h | rfl
          · exact Or.inr (Or.inl ⟨h, e⟩)
          · exact Or.inr (Or.inr rfl)
        · exact Or.inl ⟨h, h1, by omega⟩
    · rw [if_neg hx]
      rw [beq_iff_eq] at hx
      simp only [List.not_mem_nil, or_false, beq_iff_eq]
      constructor
      · rintro (⟨h, h1, h2⟩ | ⟨h, h1⟩)
        · exact ⟨h, h1, by omega⟩
        · exact ⟨Or.inl h, by omega, by omega⟩
      · rintro ⟨h, h1, h2⟩
        by_cases e : sl d = D
        · rcases h with h | rfl
          · exact Or.inr ⟨h, e⟩
          · exact absurd e hx
        · exact Or.inl ⟨h, h1, by omega⟩
theorem one_slot {sl : α → Int} {s : Int} : ∀ {l : List α}, Srt sl l → l.filter (fun d => sl d == s) = [] ∨ ∃ a, l.filter (fun d => sl d == s) = [a]
  | [], _ => Or.inl rfl
  | a :: l, h => by
    obtain ⟨p, q⟩ := List.pairwise_cons.1 h
    by_cases e : sl a = s
    · right
      refine ⟨a, ?_⟩
      rw [List.filter_cons_of_pos (by simpa using e)]
      rw [List.filter_eq_nil_iff.2 fun b hb => ?_]
      have := p _ hb
      simp only [beq_iff_eq]; omega
    · rw [List.filter_cons_of_neg (by simpa using e)]
      exact one_slot q
theorem srt_rinsL {sl : α → Int} {x : α} {l : List α} (h : Srt sl l) (hn : ∀ d ∈ l, sl d ≠ sl x) : ∀ {D : Nat}, Srt sl (rinsL sl x D l)
  | 0 => List.Pairwise.nil
  | D + 1 => by
    rw [rinsL_succ]
    refine List.pairwise_append.2 ⟨srt_rinsL h hn, ?_, fun a ha b hb => ?_⟩
    · by_cases hx : (sl x == (D : Int)) = true
      · rw [if_pos hx, List.filter_eq_nil_iff.2 fun d hd => ?_]
        · exact List.pairwise_singleton _ _
        · rw [beq_iff_eq] at hx ⊢
          intro e; exact hn d hd (e.trans hx.symm)
      · rw [if_neg hx, List.append_nil]
        rcases one_slot (s := (D : Int)) h with e | ⟨a, e⟩
        · rw [e]; exact List.Pairwise.nil
        · rw [e]; exact List.pairwise_singleton _ _
    · have h1 := (mem_rinsL.1 ha).2.2
      have h2 : sl b = D := by
        rcases List.mem_append.1 hb with hb | hb
        · simpa using (List.mem_filter.1 hb).2
        · by_cases hx : (sl x == (D : Int)) = true
          · rw [if_pos hx, List.mem_singleton] at hb; subst hb; simpa using hx
          · rw [if_neg hx] at hb; simp at hb
      omega
/-- For entries in order within the data slots the two additions are the same. -/
theorem rinsL_eq {sl : α → Int} {x : α} {l : List α} {D : Nat} (h : Srt sl l) (hn : ∀ d ∈ l, sl d ≠ sl x) (hl : ∀ d ∈ l, 0 ≤ sl d ∧ sl d < D) (hx : 0 ≤ sl x ∧ sl x < D) : rinsL sl x D l = insL (fun d => decide (sl x < sl d)) x l :=
  srt_ext (srt_rinsL h hn) (srt_insL h hn) fun d => by
    rw [mem_rinsL, mem_insL]
    constructor
    · rintro ⟨h | h, _⟩
      · exact Or.inr h
      · exact Or.inl h
    · rintro (rfl | h)
      · exact ⟨Or.inr rfl, hx⟩
      · exact ⟨Or.inl h, hl d h⟩
end
/-- The error of an addition. -/
def refE (N D : Int) (us : List Us) (gs : List Gr) (ks : List Ak) (ok : Bool) (s : Int) : Int :=
  if (vldT N D us gs ks && ok) = true then (if bsyB s us gs = true then 5 else if 24 ≤ (us.length : Int) + (gs.length : Int) then 10 else 0) else 1
theorem refE_v0 {N D : Int} {us : List Us} {gs : List Gr} {ks : List Ak} {ok : Bool} {s : Int} (h : vldT N D us gs ks = false) : refE N D us gs ks ok s = 1 := by simp [refE, h]
theorem refE_v1 {N D : Int} {us : List Us} {gs : List Gr} {ks : List Ak} {ok : Bool} {s : Int} (h : ok = false) : refE N D us gs ks ok s = 1 := by simp [refE, h]
theorem refE_b {N D : Int} {us : List Us} {gs : List Gr} {ks : List Ak} {ok : Bool} {s : Int} (h : vldT N D us gs ks = true) (ho : ok = true) (hb : bsyB s us gs = true) : refE N D us gs ks ok s = 5 := by simp [refE, h, ho, hb]
theorem refE_f {N D : Int} {us : List Us} {gs : List Gr} {ks : List Ak} {ok : Bool} {s : Int} (h : vldT N D us gs ks = true) (ho : ok = true) (hb : bsyB s us gs = false) (hf : 24 ≤ (us.length : Int) + (gs.length : Int)) : refE N D us gs ks ok s = 10 := by simp [refE, h, ho, hb, hf]
theorem refE_o {N D : Int} {us : List Us} {gs : List Gr} {ks : List Ak} {ok : Bool} {s : Int} (h : vldT N D us gs ks = true) (ho : ok = true) (hb : bsyB s us gs = false) (hf : ¬ 24 ≤ (us.length : Int) + (gs.length : Int)) : refE N D us gs ks ok s = 0 := by simp [refE, h, ho, hb, hf]
theorem refE_ok {N D : Int} {us : List Us} {gs : List Gr} {ks : List Ak} {ok : Bool} {s : Int} (h : refE N D us gs ks ok s = 0) : vldT N D us gs ks = true ∧ ok = true ∧ bsyB s us gs = false ∧ (us.length : Int) + (gs.length : Int) < 24 := by
  unfold refE at h
  cases hv : vldT N D us gs ks <;> cases ok <;> cases hb : bsyB s us gs <;> simp [hv, hb] at h
  simp; omega
/-- The tables after an addition. -/
def adU (x : Us) (us : List Us) : List Us := insL (fun d => decide (x.s < d.s)) x us
def adG (x : Gr) (gs : List Gr) : List Gr := insL (fun d => decide (x.s < d.s)) x gs
def una (s : Int) (ks : List Ak) : List Ak := ks.filter (fun d => !(d.s == s))
def auE (N D : Int) (us : List Us) (gs : List Gr) (ks : List Ak) (x : Us) : Int := refE N D us gs ks (usB N D x) x.s
def agE (N D : Int) (us : List Us) (gs : List Gr) (ks : List Ak) (x : Gr) : Int := refE N D us gs ks (grB N D x) x.s

end Go.Proofs.Ytdmadnoijhmbcaa
