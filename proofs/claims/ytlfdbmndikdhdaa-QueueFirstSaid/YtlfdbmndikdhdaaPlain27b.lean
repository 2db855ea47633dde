/- Plain facts about valid queues: names are distinct; putting and dropping. No program is in sight here. -/
import Derived.Test.YtlfdbmndikdhdaaQueue27
namespace Go.Proofs.Ytlfdbmndikdhdaa
open Go.RowKit

/-- Two readings have one name. -/
def nmEq (r s : Rd) : Prop := r.o = s.o ∧ r.n = s.n
theorem isB_iff {o n : Int} {r : Rd} : isB o n r = true ↔ r.o = o ∧ r.n = n := by simp [isB]
theorem isB_false {o n : Int} {r : Rd} : isB o n r = false ↔ ¬ (r.o = o ∧ r.n = n) := by rw [← isB_iff]; simp

theorem fndFrom_pre {o n : Int} : ∀ (pre l : List Rd) (i : Nat), (∀ s ∈ pre, isB o n s = false) → fndFrom o n (pre ++ l) i = fndFrom o n l (i + pre.length)
  | [], l, i, _ => rfl
  | s :: pre, l, i, h => by
    have h0 : isB o n s = false := h s (by simp)
    simp only [List.cons_append, fndFrom, h0, if_neg (show ¬ (false = true) by simp)]
    rw [fndFrom_pre pre l (i + 1) (fun x hx => h x (by simp [hx]))]
    congr 1
    simp; omega
theorem fndFrom_lt {o n : Int} : ∀ (pre l : List Rd) (i : Nat), (∃ s ∈ pre, isB o n s = true) → fndFrom o n (pre ++ l) i < ((i + pre.length : Nat) : Int)
  | [], l, i, h => by simp at h
  | s :: pre, l, i, h => by
    cases h0 : isB o n s with
    | true => simp only [List.cons_append, fndFrom, h0, ↓reduceIte, List.length_cons]; omega
    | false =>
      simp only [List.cons_append, fndFrom, h0, if_neg (show ¬ (false = true) by simp)]
      have : ∃ s ∈ pre, isB o n s = true := by
        obtain ⟨x, hx, hb⟩ := h
        rcases List.mem_cons.1 hx with rfl | hx
        · rw [h0] at hb; cases hb
        · exact ⟨x, hx, hb⟩
      have := fndFrom_lt pre l (i + 1) this
      simp only [List.length_cons]
      omega
/-- Every reading of l is formed, no two readings of l have one name, and none has the name of one ahead. -/
theorem vdFrom_iff : ∀ (l pre : List Rd), vdFrom (pre ++ l) l pre.length = true ↔ (∀ r ∈ l, fmB r = true) ∧ l.Pairwise (fun r s => ¬ nmEq r s) ∧ ∀ s ∈ pre, ∀ r ∈ l, ¬ nmEq s r
  | [], pre => by simp [vdFrom]
  | r :: l, pre => by
    have ih := vdFrom_iff l (pre ++ [r])
    rw [show pre ++ [r] ++ l = pre ++ r :: l by simp, show (pre ++ [r]).length = pre.length + 1 by simp] at ih
    have key : (fnd r.o r.n (pre ++ r :: l) == (pre.length : Int)) = true ↔ ∀ s ∈ pre, ¬ nmEq s r := by
      rw [beq_iff_eq]
      constructor
      · intro h s hs hn
        have := fndFrom_lt (o := r.o) (n := r.n) pre (r :: l) 0 ⟨s, hs, isB_iff.2 ⟨hn.1, hn.2⟩⟩
        unfold fnd at h
        omega
      · intro h
        unfold fnd
        rw [fndFrom_pre pre (r :: l) 0 (fun s hs => isB_false.2 fun hn => h s hs hn)]
        simp [fndFrom, isB]
    rw [vdFrom, Bool.and_eq_true, Bool.and_eq_true, key, ih]
    constructor
    · rintro ⟨⟨a, b⟩, c, d, e⟩
      refine ⟨?_, ?_, ?_⟩
      · intro x hx
        rcases List.mem_cons.1 hx with rfl | hx
        · exact a
        · exact c x hx
      · rw [List.pairwise_cons]
        exact ⟨fun x hx => e r (by simp) x hx, d⟩
      · intro s hs x hx
        rcases List.mem_cons.1 hx with rfl | hx
        · exact b s hs
        · exact e s (by simp [hs]) x hx
    · rintro ⟨a, b, c⟩
      rw [List.pairwise_cons] at b
      refine ⟨⟨a r (by simp), fun s hs => c s hs r (by simp)⟩, fun x hx => a x (by simp [hx]), b.2, ?_⟩
      intro s hs x hx
      rcases List.mem_append.1 hs with hs | hs
      · exact c s hs x (by simp [hx])
      · obtain rfl : s = r := by simpa using hs
        exact b.1 x hx
theorem vd_iff (rs : List Rd) : vdB rs = true ↔ (∀ r ∈ rs, fmB r = true) ∧ rs.Pairwise (fun r s => ¬ nmEq r s) ∧ rs.length ≤ 16 := by
  have := vdFrom_iff rs []
  simp only [List.nil_append, List.length_nil] at this
  rw [vdB, Bool.and_eq_true, this, decide_eq_true_eq]
  constructor
  · rintro ⟨⟨a, b, _⟩, c⟩; exact ⟨a, b, c⟩
  · rintro ⟨a, b, c⟩; exact ⟨⟨a, b, by simp⟩, c⟩
theorem vd_nil : vdB [] = true := rfl
theorem fnd_neg {o n : Int} {rs : List Rd} (h : fnd o n rs < 0) : ∀ r ∈ rs, isB o n r = false := by
  rcases fnd_cases o n rs with ⟨_, h2⟩ | ⟨k, _, h2, _⟩
  · exact h2
  · omega
theorem fnd_pos {o n : Int} {rs : List Rd} (h : ∃ r ∈ rs, isB o n r = true) : 0 ≤ fnd o n rs := by
  rcases fnd_cases o n rs with ⟨_, h2⟩ | ⟨k, _, h2, _⟩
  · obtain ⟨r, hr, hb⟩ := h
    rw [h2 r hr] at hb; cases hb
  · omega
theorem fnd_lt {o n : Int} {rs : List Rd} (h : ∀ r ∈ rs, isB o n r = false) : fnd o n rs < 0 := by
  rcases fnd_cases o n rs with ⟨h1, _⟩ | ⟨k, _, _, _, r, hr, hb⟩
  · omega
  · rw [h r (List.mem_of_getElem? hr)] at hb; cases hb
/-- One more reading: still valid. -/
theorem vd_snoc {rs : List Rd} {r : Rd} (hv : vdB rs = true) (hf : fmB r = true) (hn : fnd r.o r.n rs < 0) (hl : rs.length ≤ 15) : vdB (rs ++ [r]) = true := by
  rw [vd_iff] at hv ⊢
  obtain ⟨a, b, c⟩ := hv
  refine ⟨?_, ?_, by simp; omega⟩
  · intro x hx
    rcases List.mem_append.1 hx with hx | hx
    · exact a x hx
    · obtain rfl : x = r := by simpa using hx
      exact hf
  · rw [List.pairwise_append]
    refine ⟨b, by simp, ?_⟩
    intro x hx y hy hxy
    obtain rfl : y = r := by simpa using hy
    have := fnd_neg hn x hx
    rw [isB_false] at this
    exact this hxy
theorem vd_put {rs : List Rd} {r : Rd} {me : Int} (h : putE rs r me = 0) : vdB rs = true ∧ fmB r = true ∧ 0 ≤ me ∧ me < 60 ∧ fnd r.o r.n rs < 0 ∧ rs.length ≤ 15 ∧ vdB (rs ++ [r]) = true := by
  unfold putE at h
  by_cases h1 : vdB rs = false ∨ fmB r = false ∨ me < 0 ∨ 60 ≤ me
  · rw [if_pos h1] at h; cases h
  · rw [if_neg h1] at h
    by_cases h2 : 0 ≤ fnd r.o r.n rs
    · rw [if_pos h2] at h; cases h
    · rw [if_neg h2] at h
      by_cases h3 : rs.length = 16 ∨ (12 ≤ rs.length ∧ r.o = me)
      · rw [if_pos h3] at h; cases h
      · have hv : vdB rs = true := by cases e : vdB rs with | true => rfl | false => exact absurd (Or.inl e) h1
        have hf : fmB r = true := by cases e : fmB r with | true => rfl | false => exact absurd (Or.inr (Or.inl e)) h1
        have := vd_len hv
        exact ⟨hv, hf, by omega, by omega, by omega, by omega, vd_snoc hv hf (by omega) (by omega)⟩
/-- Dropping what was put leads back. -/
theorem drop_put {rs : List Rd} {r : Rd} {me : Int} (h : putE rs r me = 0) : dropL (rs ++ [r]) r.o r.n = rs := by
  obtain ⟨_, _, _, _, hn, _, hv⟩ := vd_put h
  have hno := fnd_neg hn
  rw [dropL, if_pos hv, List.eraseP_append_right _ (fun x hx => by rw [hno x hx]; simp)]
  simp [isB]
/-- What a drop leaves, of a valid queue: all the others. -/
theorem drop_filter {rs : List Rd} {o n : Int} (hv : vdB rs = true) : dropL rs o n = rs.filter (fun r => !isB o n r) := by
  rw [dropL, if_pos hv]
  have hp := ((vd_iff rs).1 hv).2.1
  clear hv
  induction rs with
  | nil => rfl
  | cons r rs ih =>
    rw [List.pairwise_cons] at hp
    cases h : isB o n r with
    | true =>
      rw [List.eraseP_cons_of_pos h, List.filter_cons_of_neg (by simp [h])]
      refine (List.filter_eq_self.2 fun x hx => ?_).symm
      have := hp.1 x hx
      cases e : isB o n x with
      | false => rfl
      | true => exact absurd ⟨(isB_iff.1 h).1.trans (isB_iff.1 e).1.symm, (isB_iff.1 h).2.trans (isB_iff.1 e).2.symm⟩ this
    | false =>
      rw [List.eraseP_cons_of_neg (by simp [h]), List.filter_cons_of_pos (by simp [h]), ih hp.2]
theorem vd_drop {rs : List Rd} {o n : Int} (hv : vdB rs = true) : vdB (dropL rs o n) = true := by
  rw [drop_filter hv]
  rw [vd_iff] at hv ⊢
  obtain ⟨a, b, c⟩ := hv
  exact ⟨fun r hr => a r (List.mem_filter.1 hr).1, b.sublist List.filter_sublist, Nat.le_trans (List.length_filter_le _ _) c⟩
theorem drop_len {rs : List Rd} {r : Rd} (hv : vdB rs = true) (hr : r ∈ rs) : (dropL rs r.o r.n).length + 1 = rs.length ∧ fnd r.o r.n (dropL rs r.o r.n) < 0 := by
  constructor
  · rw [dropL, if_pos hv]
    rw [List.length_eraseP_of_mem hr (by simp [isB])]
    have : 0 < rs.length := List.length_pos_of_mem hr
    omega
  · rw [drop_filter hv]
    refine fnd_lt fun x hx => ?_
    have := (List.mem_filter.1 hx).2
    simpa using this
/-- Dropping the head leaves the tail. -/
theorem drop_head {r : Rd} {rs : List Rd} (hv : vdB (r :: rs) = true) : dropL (r :: rs) r.o r.n = rs := by
  rw [dropL, if_pos hv, List.eraseP_cons_of_pos (by simp [isB])]

/-- How many readings of an origin have numbers from 1 up to k. -/
def upTo (o : Int) (k : Int) (rs : List Rd) : Nat := (rs.filter fun r => r.o == o && decide (r.n ≤ k)).length
theorem upTo_le (o k : Int) (rs : List Rd) : upTo o k rs ≤ rs.length := List.length_filter_le _ _
theorem upTo_step {o k : Int} : ∀ {rs : List Rd}, 0 ≤ fnd o (k + 1) rs → upTo o k rs + 1 ≤ upTo o (k + 1) rs := by
  intro rs h
  have : ∃ r ∈ rs, isB o (k + 1) r = true := by
    rcases fnd_cases o (k + 1) rs with ⟨h1, _⟩ | ⟨j, _, _, _, r, hr, hb⟩
    · omega
    · exact ⟨r, List.mem_of_getElem? hr, hb⟩
  clear h
  have mono : ∀ l : List Rd, upTo o k l ≤ upTo o (k + 1) l := by
    intro l
    induction l with
    | nil => simp [upTo]
    | cons x l ih =>
      unfold upTo at ih ⊢
      simp only [List.filter_cons]
      by_cases h1 : x.o = o
      · by_cases h2 : x.n ≤ k
        · simp [h1, h2, show x.n ≤ k + 1 by omega]; simpa [h1] using ih
        · by_cases h3 : x.n ≤ k + 1
          · simp [h1, h2, h3]; have := ih; omega
          · simp [h1, h2, h3]; simpa [h1] using ih
      · simp [h1]; exact ih
  induction rs with
  | nil => simp at this
  | cons x rs ih =>
    obtain ⟨r, hr, hb⟩ := this
    rcases List.mem_cons.1 hr with rfl | hr
    · have hm := mono rs
      unfold upTo at hm ⊢
      rw [isB_iff] at hb
      simp only [List.filter_cons, hb.1, hb.2]
      have e1 : ¬ (k + 1 ≤ k) := by omega
      simp [e1]
      exact hm
    · have ih' := ih ⟨r, hr, hb⟩
      unfold upTo at ih' ⊢
      simp only [List.filter_cons]
      by_cases h1 : x.o = o
      · by_cases h2 : x.n ≤ k
        · simp [h1, h2, show x.n ≤ k + 1 by omega]; exact ih'
        · by_cases h3 : x.n ≤ k + 1
          · simp [h1, h2, h3]; have := ih'; omega
          · simp [h1, h2, h3]; exact ih'
      · simp [h1]; exact ih'
theorem upTo_mono {o k : Int} {rs : List Rd} : upTo o k rs ≤ upTo o (k + 1) rs := by
  induction rs with
  | nil => simp [upTo]
  | cons x l ih =>
    unfold upTo at ih ⊢
    simp only [List.filter_cons]
    by_cases h1 : x.o = o
    · by_cases h2 : x.n ≤ k
      · simp [h1, h2, show x.n ≤ k + 1 by omega]; exact ih
      · by_cases h3 : x.n ≤ k + 1
        · simp [h1, h2, h3]; have := ih; omega
        · simp [h1, h2, h3]; exact ih
    · simp [h1]; exact ih
theorem upTo_snoc {o k : Int} {rs : List Rd} {r : Rd} (h1 : r.o = o) (h2 : r.n = k + 1) : upTo o k rs + 1 ≤ upTo o (k + 1) (rs ++ [r]) := by
  have := upTo_mono (o := o) (k := k) (rs := rs)
  unfold upTo at this ⊢
  rw [List.filter_append, List.length_append]
  have e : ([r].filter fun r => r.o == o && decide (r.n ≤ k + 1)) = [r] := by simp [h1, h2]
  rw [e, List.length_singleton]
  omega

/-- A reading of the queue is refused with any value and time; after it is dropped, it can be put by another node. -/
theorem twice_plain {rs : List Rd} {r : Rd} {v a me : Int} (hv : vdB rs = true) (hr : r ∈ rs) (h0 : 0 ≤ a) (h1 : a ≤ 1000000000) (m0 : 0 ≤ me) (m1 : me < 60) :
    putE rs ⟨r.o, r.n, r.k, v, a⟩ me = 5 ∧ (r.o ≠ me → putE (dropL rs r.o r.n) ⟨r.o, r.n, r.k, v, a⟩ me = 0) := by
  have hf : fmB ⟨r.o, r.n, r.k, v, a⟩ = true := by
    have := fmB_iff.1 (((vd_iff rs).1 hv).1 r hr)
    exact fmB_iff.2 ⟨this.1, this.2.1, this.2.2.1, this.2.2.2.1, this.2.2.2.2.1, h0, h1⟩
  have hl := vd_len hv
  constructor
  · rw [putE, if_neg (by simp [hv, hf]; omega), if_pos (fnd_pos ⟨r, hr, by simp [isB]⟩)]
  · intro hne
    obtain ⟨d1, d2⟩ := drop_len hv hr
    rw [putE, if_neg (by simp [vd_drop hv, hf]; omega), if_neg (by show ¬ 0 ≤ fnd r.o r.n _; omega), if_neg (by
      rintro (h | ⟨_, h⟩)
      · omega
      · exact hne h)]

end Go.Proofs.Ytlfdbmndikdhdaa
