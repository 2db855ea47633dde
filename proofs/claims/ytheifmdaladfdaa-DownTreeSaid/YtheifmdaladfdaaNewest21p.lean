/- Plain facts for DownNewest. No program is in sight here. -/
import Derived.Test.YtheifmdaladfdaaLaw21p
namespace Go.Proofs.Ytheifmdaladfdaa
open Go.RowKit

/-- Learning lowers a number only of a route whose next node was the child. -/
theorem lrL_newer {ls be : List Dn} {c s f : Int} (h : lrnB ls be c s f = true) {d : Dn} (hd : d ∈ ls) :
    ∃ (k : Nat) (r : Dn), (lrL ls be c s f)[k]? = some r ∧ idxD (fun e => e.t == d.t) (lrL ls be c s f) = (k : Int) ∧ (d.n ≠ c → d.s ≤ r.s) := by
  obtain ⟨h1, _⟩ := lrnB_spec h
  obtain ⟨a1, a2⟩ := vld_spec h1
  have hg : getD' (lrL ls be c s f) d.t = lrOf ls be c s f d.t := by rw [lrL_get, if_pos (a2 d hd).1]
  have hl : getD' ls d.t = some d := getD_mem a1 hd
  have key : ∃ r, lrOf ls be c s f d.t = some r ∧ (d.n ≠ c → d.s ≤ r.s) := by
    unfold lrOf
    rw [hl]
    by_cases hi : lrIn be c d.t = true
    · rw [if_pos hi]
      dsimp only
      by_cases hk : lrKeep d c (lrN be c s f d.t) = true
      · rw [if_pos hk]
        exact ⟨d, rfl, fun _ => Int.le_refl _⟩
      · rw [if_neg hk]
        refine ⟨_, rfl, fun hn => ?_⟩
        have hb : (d.n != c) = true := by simpa [bne] using hn
        rw [lrKeep, hb] at hk
        simp at hk
        omega
    · rw [if_neg hi]
      exact ⟨d, rfl, fun _ => Int.le_refl _⟩
  obtain ⟨r, hr, hs⟩ := key
  rcases idx_get (lrL ls be c s f) d.t with ⟨_, g⟩ | ⟨k, r', g1, g2, g3⟩
  · rw [hg, hr] at g; cases g
  · rw [hg, hr] at g3
    obtain rfl := Option.some.inj g3
    exact ⟨k, r, g1, g2, hs⟩
/-- A telling with a greater number turns the route to the child. -/
theorem lrL_turn {ms : List Dn} {t k i f : Int} (ht : 0 ≤ t ∧ t < 60) (hm : getD' ms t = none ∨ ∃ r, getD' ms t = some r ∧ r.s ≤ i) :
    getD' (lrL ms [⟨t, 0, i + 1, 0⟩] k 0 f) t = some ⟨t, k, i + 1, f + 3⟩ := by
  have hb : getD' [(⟨t, 0, i + 1, 0⟩ : Dn)] t = some ⟨t, 0, i + 1, 0⟩ := by simp [getD_cons]
  have hN : lrN [(⟨t, 0, i + 1, 0⟩ : Dn)] k 0 f t = ⟨t, k, i + 1, f + 3⟩ := by simp [lrN, hb]
  rw [lrL_get, if_pos ht, lrOf, if_pos (by simp [lrIn, hb]), hN]
  rcases hm with h | ⟨r, h, hr⟩
  · rw [h]
  · rw [h]
    dsimp only
    rw [if_neg]
    simp [lrKeep]
    intro _
    omega
/-- A child's number, as a byte. -/
def chL : Lay Int := ⟨fun c => [.int .u8 c], 1, by decide, fun _ => rfl, fun a u h => by simp only [List.mem_cons, List.not_mem_nil, or_false] at h; rcases h with rfl; rfl⟩
theorem ch_of {cs : List Value} (h : okCells [some .u8] cs) : ∃ a : Int, cs = chL.f a ∧ (0 ≤ a ∧ a < 256) := by
  simp only [okCells] at h
  obtain ⟨a, _, rfl, h1, rfl⟩ := h
  refine ⟨a, rfl, ?_⟩
  have h2 : 0 ≤ a ∧ a ≤ 255 := by simpa [IntKind.has, IntKind.min, IntKind.max, IntKind.signed, IntKind.bits] using h1
  omega
theorem SlT.at1 {w w' : World} {p : Option Addr} {n cap : Nat} {l : List Int} (h : SlT chL w (.slice p n cap) l) (bel : Below w.heap.size w w') {i : Nat} (hi : i < l.length) :
    ∃ a b off, l[i]? = some a ∧ p = some ⟨b, off, none⟩ ∧ b < w'.heap.size ∧ b < w.heap.size ∧ w'.cell? ⟨b, off + i, none⟩ = some (.int .u8 a) := by
  obtain ⟨a, b, off, h1, h2, h3, h4, h5⟩ := h.at bel hi
  exact ⟨a, b, off, h1, h2, h3, h4, by simpa [chL] using h5 0 _ rfl⟩
/-- What the second loop knows: the last child, and where the route leads. -/
def NwS (ms : List Dn) (t L i : Int) : Prop := (L = -1 ∧ getD' ms t = none) ∨ (0 ≤ L ∧ ∃ r, getD' ms t = some r ∧ r.n = L ∧ r.s ≤ i)
theorem nw_start (t : Int) : NwS [] t (-1) 0 := .inl ⟨rfl, rfl⟩
theorem nw_keep {ms : List Dn} {t L i : Int} (h : NwS ms t L i) : NwS ms t L (i + 1) := by
  rcases h with h | ⟨h, r, h1, h2, h3⟩
  · exact .inl h
  · exact .inr ⟨h, r, h1, h2, by omega⟩
theorem nw_good {ms : List Dn} {t k i f : Int} (hv : vldD ms = true) (ht : 0 ≤ t ∧ t < 60) (hk : 0 ≤ k ∧ k < 60) (hkt : ¬ k = t) (hf : 0 ≤ f ∧ f ≤ 999999997) (hi : 0 ≤ i ∧ i ≤ 1000) : lrnB ms [⟨t, 0, i + 1, 0⟩] k 0 f = true := by
  have ht2 : nodB t = true := nodB_iff.2 ht
  have hto : toldB [(⟨t, 0, i + 1, 0⟩ : Dn)] = true := by
    simp [toldB, toldF, ht2]
    omega
  have hc : (t != k) = true := by simp [bne]; omega
  rw [lrnB, hv, nodB_iff.2 hk, toldC, hto]
  simp [hf.1, hf.2, hc]
theorem nw_step {ms : List Dn} {t k i f L : Int} (hv : vldD ms = true) (ht : 0 ≤ t ∧ t < 60) (hk : 0 ≤ k ∧ k < 60) (hkt : ¬ k = t) (hf : 0 ≤ f ∧ f ≤ 999999997) (hi : 0 ≤ i ∧ i ≤ 1000) (h : NwS ms t L i) :
    (lrX ms [⟨t, 0, i + 1, 0⟩] k 0 f = lrL ms [⟨t, 0, i + 1, 0⟩] k 0 f ∧ lrE ms [⟨t, 0, i + 1, 0⟩] k 0 f = 0) ∧ NwS (lrL ms [⟨t, 0, i + 1, 0⟩] k 0 f) t k (i + 1) ∧ vldD (lrL ms [⟨t, 0, i + 1, 0⟩] k 0 f) = true ∧ (lrL ms [⟨t, 0, i + 1, 0⟩] k 0 f).length ≤ 60 := by
  have hg := nw_good hv ht hk hkt hf hi
  refine ⟨lrX_good hg, ?_, lrL_valid hg, tgt_len _ 60⟩
  refine .inr ⟨hk.1, _, lrL_turn ht ?_, rfl, Int.le_refl _⟩
  rcases h with ⟨_, h⟩ | ⟨_, r, h1, _, h3⟩
  · exact .inl h
  · exact .inr ⟨r, h1, h3⟩
theorem nw_end {ms : List Dn} {t L i : Int} (hv : vldD ms = true) (h : NwS ms t L i) : (L = -1 ∧ nxtN ms t = 0 ∧ nxtB ms t = false) ∨ (0 ≤ L ∧ nxtN ms t = L ∧ nxtB ms t = true) := by
  rcases idx_get ms t with ⟨h1, h2⟩ | ⟨k, r, h1, h2, h3⟩
  · rcases h with ⟨e, h⟩ | ⟨_, r, h, _⟩
    · exact .inl ⟨e, nxt_no (.inr (by rw [h1]; decide))⟩
    · rw [h2] at h; cases h
  · rcases h with ⟨e, h⟩ | ⟨e, r', h, hn, _⟩
    · rw [h3] at h; cases h
    · rw [h3] at h
      obtain rfl := Option.some.inj h
      obtain ⟨q1, q2⟩ := nxt_of hv h1 h2
      exact .inr ⟨e, by rw [q1, hn], q2⟩

end Go.Proofs.Ytheifmdaladfdaa
