/- Plain facts about tables of cells: uses, grants, asks; lists of anything with a slot. No program is in sight here. -/
import Derived.Test.YtdmadnoijhmbcaaSlt
namespace Go.Proofs.Ytdmadnoijhmbcaa
open Go.RowKit

/-- A use: slot, offset, peer, stamp. -/
structure Us where
  s : Int
  o : Int
  p : Int
  m : Int
/-- A grant: slot, offset, peer, stamp, the last frame. -/
structure Gr where
  s : Int
  o : Int
  p : Int
  m : Int
  u : Int
/-- An ask: slot, offset, peer. -/
structure Ak where
  s : Int
  o : Int
  p : Int
def Us.cells (d : Us) : List Value := [.int .i64 d.s, .int .i64 d.o, .int .i64 d.p, .int .i64 d.m]
def Gr.cells (d : Gr) : List Value := [.int .i64 d.s, .int .i64 d.o, .int .i64 d.p, .int .i64 d.m, .int .i64 d.u]
def Ak.cells (d : Ak) : List Value := [.int .i64 d.s, .int .i64 d.o, .int .i64 d.p]
def usL : Lay Us := ⟨Us.cells, 4, by decide, fun _ => rfl, fun a u h => by simp only [Us.cells, List.mem_cons, List.not_mem_nil, or_false] at h; rcases h with rfl | rfl | rfl | rfl <;> rfl⟩
def grL : Lay Gr := ⟨Gr.cells, 5, by decide, fun _ => rfl, fun a u h => by simp only [Gr.cells, List.mem_cons, List.not_mem_nil, or_false] at h; rcases h with rfl | rfl | rfl | rfl | rfl <;> rfl⟩
def akL : Lay Ak := ⟨Ak.cells, 3, by decide, fun _ => rfl, fun a u h => by simp only [Ak.cells, List.mem_cons, List.not_mem_nil, or_false] at h; rcases h with rfl | rfl | rfl <;> rfl⟩
abbrev SlU (w : World) (v : Value) (as : List Us) : Prop := SlT usL w v as
abbrev SlG (w : World) (v : Value) (as : List Gr) : Prop := SlT grL w v as
abbrev SlA (w : World) (v : Value) (as : List Ak) : Prop := SlT akL w v as
theorem us_of {cs : List Value} (h : okCells [some .i64, some .i64, some .i64, some .i64] cs) : ∃ d : Us, cs = d.cells ∧ True := by
  simp only [okCells] at h
  obtain ⟨a, _, rfl, _, b, _, rfl, _, c, _, rfl, _, d, _, rfl, _, rfl⟩ := h
  exact ⟨⟨a, b, c, d⟩, rfl, trivial⟩
theorem gr_of {cs : List Value} (h : okCells [some .i64, some .i64, some .i64, some .i64, some .i64] cs) : ∃ d : Gr, cs = d.cells ∧ True := by
  simp only [okCells] at h
  obtain ⟨a, _, rfl, _, b, _, rfl, _, c, _, rfl, _, d, _, rfl, _, e, _, rfl, _, rfl⟩ := h
  exact ⟨⟨a, b, c, d, e⟩, rfl, trivial⟩
theorem ak_of {cs : List Value} (h : okCells [some .i64, some .i64, some .i64] cs) : ∃ d : Ak, cs = d.cells ∧ True := by
  simp only [okCells] at h
  obtain ⟨a, _, rfl, _, b, _, rfl, _, c, _, rfl, _, rfl⟩ := h
  exact ⟨⟨a, b, c⟩, rfl, trivial⟩
/-- The cells of element i. -/
theorem SlT.atU {w w' : World} {p : Option Addr} {n cap : Nat} {as : List Us} (h : SlU w (.slice p n cap) as) (bel : Below w.heap.size w w') {i : Nat} (hi : i < as.length) :
    ∃ a b off, as[i]? = some a ∧ p = some ⟨b, off, none⟩ ∧ b < w'.heap.size ∧ b < w.heap.size ∧ w'.cell? ⟨b, off + i * 4, none⟩ = some (.int .i64 a.s) ∧ w'.cell? ⟨b, off + i * 4 + 1, none⟩ = some (.int .i64 a.o) ∧ w'.cell? ⟨b, off + i * 4 + 2, none⟩ = some (.int .i64 a.p) ∧ w'.cell? ⟨b, off + i * 4 + 3, none⟩ = some (.int .i64 a.m) := by
  obtain ⟨a, b, off, h1, h2, h3, h4, h5⟩ := h.at bel hi
  exact ⟨a, b, off, h1, h2, h3, h4, h5 0 _ rfl, h5 1 _ rfl, h5 2 _ rfl, h5 3 _ rfl⟩
theorem SlT.atG {w w' : World} {p : Option Addr} {n cap : Nat} {as : List Gr} (h : SlG w (.slice p n cap) as) (bel : Below w.heap.size w w') {i : Nat} (hi : i < as.length) :
    ∃ a b off, as[i]? = some a ∧ p = some ⟨b, off, none⟩ ∧ b < w'.heap.size ∧ b < w.heap.size ∧ w'.cell? ⟨b, off + i * 5, none⟩ = some (.int .i64 a.s) ∧ w'.cell? ⟨b, off + i * 5 + 1, none⟩ = some (.int .i64 a.o) ∧ w'.cell? ⟨b, off + i * 5 + 2, none⟩ = some (.int .i64 a.p) ∧ w'.cell? ⟨b, off + i * 5 + 3, none⟩ = some (.int .i64 a.m) ∧ w'.cell? ⟨b, off + i * 5 + 4, none⟩ = some (.int .i64 a.u) := by
  obtain ⟨a, b, off, h1, h2, h3, h4, h5⟩ := h.at bel hi
  exact ⟨a, b, off, h1, h2, h3, h4, h5 0 _ rfl, h5 1 _ rfl, h5 2 _ rfl, h5 3 _ rfl, h5 4 _ rfl⟩
theorem SlT.atA {w w' : World} {p : Option Addr} {n cap : Nat} {as : List Ak} (h : SlA w (.slice p n cap) as) (bel : Below w.heap.size w w') {i : Nat} (hi : i < as.length) :
    ∃ a b off, as[i]? = some a ∧ p = some ⟨b, off, none⟩ ∧ b < w'.heap.size ∧ b < w.heap.size ∧ w'.cell? ⟨b, off + i * 3, none⟩ = some (.int .i64 a.s) ∧ w'.cell? ⟨b, off + i * 3 + 1, none⟩ = some (.int .i64 a.o) ∧ w'.cell? ⟨b, off + i * 3 + 2, none⟩ = some (.int .i64 a.p) := by
  obtain ⟨a, b, off, h1, h2, h3, h4, h5⟩ := h.at bel hi
  exact ⟨a, b, off, h1, h2, h3, h4, h5 0 _ rfl, h5 1 _ rfl, h5 2 _ rfl⟩

/-! ### valid entries -/
/-- A cell with a peer is valid in a frame of D data slots with N nodes. -/
def plcB (s o p N D : Int) : Bool := decide (0 ≤ s) && decide (s < D) && decide (0 ≤ o) && decide (o < 16) && decide (0 ≤ p) && decide (p < N)
def usB (N D : Int) (d : Us) : Bool := plcB d.s d.o d.p N D && decide (0 ≤ d.m) && decide (d.m ≤ 1000000000)
def grB (N D : Int) (d : Gr) : Bool := plcB d.s d.o d.p N D && decide (0 ≤ d.m) && decide (d.m ≤ d.u) && decide (d.u ≤ 1000000000)
def akB (N D : Int) (d : Ak) : Bool := plcB d.s d.o d.p N D
def layB (N D : Int) : Bool := decide (1 ≤ N) && decide (N ≤ 60) && decide (1 ≤ D) && decide (D ≤ 60)
theorem plcB_iff {s o p N D : Int} : plcB s o p N D = true ↔ (0 ≤ s ∧ s < D) ∧ (0 ≤ o ∧ o < 16) ∧ 0 ≤ p ∧ p < N := by
  simp only [plcB, Bool.and_eq_true, decide_eq_true_eq]; omega
theorem layB_iff {N D : Int} : layB N D = true ↔ (1 ≤ N ∧ N ≤ 60) ∧ 1 ≤ D ∧ D ≤ 60 := by
  simp only [layB, Bool.and_eq_true, decide_eq_true_eq]; omega

/-! ### lists of anything -/
section
variable {α : Type}
/-- Entries are valid and in order behind a last slot. -/
def sndF (ok : α → Bool) (sl : α → Int) : Int → List α → Bool
  | _, [] => true
  | last, d :: l => ok d && decide (last < sl d) && sndF ok sl (sl d) l
theorem sndF_step {ok : α → Bool} {sl : α → Int} {rs : List α} {k : Nat} {r : α} {last : Int} (h : rs[k]? = some r) : sndF ok sl last (rs.drop k) = (ok r && decide (last < sl r) && sndF ok sl (sl r) (rs.drop (k + 1))) := by
  have hl : k < rs.length := (List.getElem?_eq_some_iff.1 h).1
  rw [List.drop_eq_getElem_cons hl, show rs[k] = r from (List.getElem?_eq_some_iff.1 h).2]
  rfl
theorem sndF_end {ok : α → Bool} {sl : α → Int} {rs : List α} {k : Nat} {last : Int} (h : rs.length ≤ k) : sndF ok sl last (rs.drop k) = true := by
  rw [List.drop_of_length_le h]; rfl
theorem sndF_spec {ok : α → Bool} {sl : α → Int} : ∀ {l : List α} {last : Int}, sndF ok sl last l = true ↔ (l.Pairwise (fun a b => sl a < sl b) ∧ ∀ d ∈ l, ok d = true ∧ last < sl d)
  | [], _ => by simp [sndF]
  | d :: l, last => by
    have ih := sndF_spec (ok := ok) (sl := sl) (l := l) (last := sl d)
    simp only [sndF, Bool.and_eq_true, decide_eq_true_eq, List.pairwise_cons, List.mem_cons, forall_eq_or_imp]
    rw [ih]
    constructor
    · rintro ⟨⟨h1, h2⟩, h3, h4⟩
      exact ⟨⟨fun a ha => (h4 a ha).2, h3⟩, ⟨h1, h2⟩, fun a ha => ⟨(h4 a ha).1, Int.lt_trans h2 (h4 a ha).2⟩⟩
    · rintro ⟨⟨h1, h2⟩, ⟨h3, h4⟩, h5⟩
      exact ⟨⟨h3, h4⟩, h2, fun a ha => ⟨(h5 a ha).1, h1 a ha⟩⟩
/-- The place of the first element that a test finds, or -1. -/
def idxF (q : α → Bool) : List α → Nat → Int
  | [], _ => -1
  | d :: l, i => if q d = true then i else idxF q l (i + 1)
def idxD (q : α → Bool) (l : List α) : Int := idxF q l 0
theorem idxF_hit {q : α → Bool} {rs : List α} {k : Nat} {r : α} (h : rs[k]? = some r) (hb : q r = true) : idxF q (rs.drop k) k = k := by
  have hl : k < rs.length := (List.getElem?_eq_some_iff.1 h).1
  rw [List.drop_eq_getElem_cons hl, show rs[k] = r from (List.getElem?_eq_some_iff.1 h).2]
  simp [idxF, hb]
theorem idxF_miss {q : α → Bool} {rs : List α} {k : Nat} {r : α} (h : rs[k]? = some r) (hb : q r = false) : idxF q (rs.drop k) k = idxF q (rs.drop (k + 1)) (k + 1) := by
  have hl : k < rs.length := (List.getElem?_eq_some_iff.1 h).1
  rw [List.drop_eq_getElem_cons hl, show rs[k] = r from (List.getElem?_eq_some_iff.1 h).2]
  simp [idxF, hb]
theorem idxF_end {q : α → Bool} {rs : List α} {k : Nat} (h : rs.length ≤ k) : idxF q (rs.drop k) k = -1 := by
  rw [List.drop_of_length_le h]; rfl
theorem idxF_cases {q : α → Bool} : ∀ (l : List α) (i : Nat), (idxF q l i = -1 ∧ l.any q = false) ∨ ∃ k r, l[k]? = some r ∧ q r = true ∧ idxF q l i = ((i + k : Nat) : Int) ∧ l.any q = true ∧ l.find? q = some r ∧ (l.take k).any q = false
  | [], i => Or.inl ⟨rfl, rfl⟩
  | r :: l, i => by
    cases h : q r with
    | true => exact Or.inr ⟨0, r, rfl, h, by simp [idxF, h], by simp [h], by simp [h], by simp⟩
    | false =>
      rcases idxF_cases (q := q) l (i + 1) with ⟨h1, h2⟩ | ⟨k, s, h1, h2, h3, h4, h5, h6⟩
      · exact Or.inl ⟨by simp [idxF, h, h1], by simp [h, h2]⟩
      · exact Or.inr ⟨k + 1, s, by simpa using h1, h2, by simp only [idxF, h, h3, if_neg (show ¬ (false = true) by simp)]; omega, by simp [h, h4], by simp [h, h5], by simp [h, h6]⟩
theorem idx_cases (q : α → Bool) (l : List α) : (idxD q l = -1 ∧ l.any q = false) ∨ ∃ (k : Nat) (r : α), l[k]? = some r ∧ q r = true ∧ idxD q l = (k : Int) ∧ l.any q = true ∧ l.find? q = some r ∧ (l.take k).any q = false := by
  simpa [idxD] using idxF_cases (q := q) l 0
theorem idx_any (q : α → Bool) (l : List α) : decide (0 ≤ idxD q l) = l.any q := by
  rcases idx_cases q l with ⟨h1, h2⟩ | ⟨k, r, _, _, h1, h2, _⟩
  · rw [h1, h2]; rfl
  · rw [h1, h2]; simp
/-- The row at round j of DeleteFunc: what is kept of the first j, old ones up to j, the rest untouched. -/
def DelR (keep : α → Bool) (ls : List α) (j : Nat) (row qs mid : List α) : Prop := row = qs ++ mid ++ ls.drop j ∧ qs = (ls.take j).filter keep ∧ 0 < mid.length ∧ qs.length + mid.length = j
theorem delR_at {keep : α → Bool} {ls row qs mid : List α} {j : Nat} {d : α} (h : DelR keep ls j row qs mid) (hd : ls[j]? = some d) : row[j]? = some d := by
  obtain ⟨rfl, _, _, hl⟩ := h
  have hj := (List.getElem?_eq_some_iff.1 hd).1
  rw [List.getElem?_append_right (by rw [List.length_append]; omega), List.length_append, hl, Nat.sub_self, List.drop_eq_getElem_cons hj]
  simpa using hd
theorem delR_keep {keep : α → Bool} {ls row qs mid : List α} {j : Nat} {d : α} (h : DelR keep ls j row qs mid) (hd : ls[j]? = some d) (hk : keep d = true) : ∃ mid', DelR keep ls (j + 1) (row.set qs.length d) (qs ++ [d]) mid' := by
  obtain ⟨rfl, hq, hm, hl⟩ := h
  have hj := (List.getElem?_eq_some_iff.1 hd).1
  have he : ls[j] = d := (List.getElem?_eq_some_iff.1 hd).2
  cases mid with
  | nil => simp at hm
  | cons m mid =>
    refine ⟨mid ++ [d], ?_, ?_, by simp, by simp at hl ⊢; omega⟩
    · rw [List.drop_eq_getElem_cons hj, he]
      simp [List.set_append_right]
    · rw [List.take_succ_eq_append_getElem hj, he, List.filter_append, ← hq]; simp [hk]
theorem delR_drop {keep : α → Bool} {ls row qs mid : List α} {j : Nat} {d : α} (h : DelR keep ls j row qs mid) (hd : ls[j]? = some d) (hk : keep d = false) : ∃ mid', DelR keep ls (j + 1) row qs mid' := by
  obtain ⟨rfl, hq, hm, hl⟩ := h
  have hj := (List.getElem?_eq_some_iff.1 hd).1
  have he : ls[j] = d := (List.getElem?_eq_some_iff.1 hd).2
  refine ⟨mid ++ [d], ?_, ?_, by simp, by simp; omega⟩
  · rw [List.drop_eq_getElem_cons hj, he]; simp
  · rw [List.take_succ_eq_append_getElem hj, he, List.filter_append, ← hq]; simp [hk]
/-- The row when the first element to be dropped is found. -/
theorem delR_start {q : α → Bool} {ls : List α} {k : Nat} {d : α} (hk : ls[k]? = some d) (hd : q d = true) (hp : (ls.take k).any q = false) : DelR (fun d => !q d) ls (k + 1) ls (ls.take k) [d] := by
  have hl := (List.getElem?_eq_some_iff.1 hk).1
  have he : ls[k] = d := (List.getElem?_eq_some_iff.1 hk).2
  have hq : (ls.take k).filter (fun d => !q d) = ls.take k := List.filter_eq_self.2 fun a ha => by
    have := List.any_eq_false.1 hp a ha; simpa using this
  refine ⟨?_, ?_, by simp, by simp; omega⟩
  · have : ls = ls.take k ++ ls.drop k := (List.take_append_drop k ls).symm
    rw [List.drop_eq_getElem_cons hl, he] at this
    rw [List.append_assoc]; exact this
  · rw [List.take_succ_eq_append_getElem hl, he, List.filter_append, hq]; simp [hd]
theorem filt_none {q : α → Bool} {ls : List α} (h : ls.any q = false) : ls.filter (fun d => !q d) = ls := List.filter_eq_self.2 fun a ha => by
  have := List.any_eq_false.1 h a ha; simpa using this
theorem delR_end {q : α → Bool} {ls row qs mid : List α} (h : DelR q ls ls.length row qs mid) : qs = ls.filter q ∧ row = qs ++ mid ∧ qs.length < ls.length ∧ mid.length = ls.length - qs.length := by
  obtain ⟨h1, h2, h3, h4⟩ := h
  rw [List.take_length] at h2
  rw [List.drop_length, List.append_nil] at h1
  exact ⟨h2, h1, by omega, by omega⟩
theorem take_snocG {as : List α} {i : Nat} {a : α} (h : as[i]? = some a) : as.take (i + 1) = as.take i ++ [a] := by
  obtain ⟨hl, he⟩ := List.getElem?_eq_some_iff.1 h
  rw [List.take_succ_eq_append_getElem hl, he]
theorem mem_of_at {as : List α} {i : Nat} {a : α} (h : as[i]? = some a) : a ∈ as := List.mem_of_getElem? h
end

/-! ### tables -/
/-- Whether no slot is taken twice. -/
def oneB (us : List Us) (gs : List Gr) (ks : List Ak) : Bool := decide ((us.map Us.s ++ gs.map Gr.s ++ ks.map Ak.s).Nodup)
def sndU (N D : Int) (us : List Us) : Bool := sndF (usB N D) Us.s (-1) us
def sndG (N D : Int) (gs : List Gr) : Bool := sndF (grB N D) Gr.s (-1) gs
def sndA (N D : Int) (ks : List Ak) : Bool := sndF (akB N D) Ak.s (-1) ks
def lenB (us : List Us) (gs : List Gr) (ks : List Ak) : Bool := decide ((us.length : Int) + (gs.length : Int) ≤ 24) && decide ((ks.length : Int) ≤ 24)
/-- Whether a table is valid. -/
def vldT (N D : Int) (us : List Us) (gs : List Gr) (ks : List Ak) : Bool := layB N D && (lenB us gs ks && (sndU N D us && (sndG N D gs && (sndA N D ks && oneB us gs ks))))
/-- Whether a table has a cell in a slot. -/
def bsyB (s : Int) (us : List Us) (gs : List Gr) : Bool := us.any (fun d => d.s == s) || gs.any (fun d => d.s == s)

end Go.Proofs.Ytdmadnoijhmbcaa
