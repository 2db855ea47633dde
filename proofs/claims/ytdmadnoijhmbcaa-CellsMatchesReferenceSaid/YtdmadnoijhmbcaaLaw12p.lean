/- Plain facts about valid tables and what is added to them and taken from them. No program is in sight here. -/
import Derived.Test.YtdmadnoijhmbcaaPlain12b
namespace Go.Proofs.Ytdmadnoijhmbcaa
open Go.RowKit

/-- What a valid table is. -/
structure Val (N D : Int) (us : List Us) (gs : List Gr) (ks : List Ak) : Prop where
  lay : layB N D = true
  n24 : us.length + gs.length ≤ 24
  k24 : ks.length ≤ 24
  su : Srt Us.s us
  sg : Srt Gr.s gs
  sa : Srt Ak.s ks
  ou : ∀ d ∈ us, usB N D d = true
  og : ∀ d ∈ gs, grB N D d = true
  oa : ∀ d ∈ ks, akB N D d = true
  ug : ∀ a ∈ us, ∀ b ∈ gs, a.s ≠ b.s
  ua : ∀ a ∈ us, ∀ b ∈ ks, a.s ≠ b.s
  ga : ∀ a ∈ gs, ∀ b ∈ ks, a.s ≠ b.s
theorem us_slot {N D : Int} {d : Us} (h : usB N D d = true) : 0 ≤ d.s ∧ d.s < D := by
  simp only [usB, Bool.and_eq_true] at h
  exact (plcB_iff.1 h.1.1).1
theorem gr_slot {N D : Int} {d : Gr} (h : grB N D d = true) : 0 ≤ d.s ∧ d.s < D := by
  simp only [grB, Bool.and_eq_true] at h
  exact (plcB_iff.1 h.1.1.1).1
theorem ak_slot {N D : Int} {d : Ak} (h : akB N D d = true) : 0 ≤ d.s ∧ d.s < D := by
  exact (plcB_iff.1 h).1
theorem srt_map {α : Type} {sl : α → Int} {l : List α} : Srt sl l ↔ (l.map sl).Pairwise (· < ·) := by
  rw [Srt, List.pairwise_map]
theorem srt_nodup {α : Type} {sl : α → Int} {l : List α} (h : Srt sl l) : (l.map sl).Nodup := (srt_map.1 h).imp fun h => by omega
theorem snd_iff {α : Type} {ok : α → Bool} {sl : α → Int} {l : List α} (h : ∀ d, ok d = true → 0 ≤ sl d) : sndF ok sl (-1) l = true ↔ Srt sl l ∧ ∀ d ∈ l, ok d = true := by
  rw [sndF_spec]
  constructor
  · rintro ⟨h1, h2⟩; exact ⟨h1, fun d hd => (h2 d hd).1⟩
  · rintro ⟨h1, h2⟩; exact ⟨h1, fun d hd => ⟨h2 d hd, by have := h d (h2 d hd); omega⟩⟩
theorem nodup3 {a b c : List Int} (ha : a.Nodup) (hb : b.Nodup) (hc : c.Nodup) : (a ++ b ++ c).Nodup ↔ (∀ x ∈ a, ∀ y ∈ b, x ≠ y) ∧ (∀ x ∈ a, ∀ y ∈ c, x ≠ y) ∧ (∀ x ∈ b, ∀ y ∈ c, x ≠ y) := by
  rw [List.nodup_append, List.nodup_append]
  constructor
  · rintro ⟨⟨_, _, h1⟩, _, h2⟩
    exact ⟨h1, fun x hx y hy => h2 x (by simp [hx]) y hy, fun x hx y hy => h2 x (by simp [hx]) y hy⟩
  · rintro ⟨h1, h2, h3⟩
    refine ⟨⟨ha, hb, h1⟩, hc, fun x hx y hy => ?_⟩
    rcases List.mem_append.1 hx with hx | hx
    · exact h2 x hx y hy
    · exact h3 x hx y hy
theorem vld_iff {N D : Int} {us : List Us} {gs : List Gr} {ks : List Ak} : vldT N D us gs ks = true ↔ Val N D us gs ks := by
  simp only [vldT, lenB, sndU, sndG, sndA, oneB, Bool.and_eq_true, decide_eq_true_eq]
  rw [snd_iff (fun d h => (us_slot h).1), snd_iff (fun d h => (gr_slot h).1), snd_iff (fun d h => (ak_slot h).1)]
  constructor
  · rintro ⟨h1, ⟨h2, h3⟩, ⟨h4, h5⟩, ⟨h6, h7⟩, ⟨h8, h9⟩, h⟩
    obtain ⟨e1, e2, e3⟩ := (nodup3 (srt_nodup h4) (srt_nodup h6) (srt_nodup h8)).1 h
    exact ⟨h1, by omega, by omega, h4, h6, h8, h5, h7, h9, fun a ha b hb => e1 _ (List.mem_map_of_mem ha) _ (List.mem_map_of_mem hb), fun a ha b hb => e2 _ (List.mem_map_of_mem ha) _ (List.mem_map_of_mem hb), fun a ha b hb => e3 _ (List.mem_map_of_mem ha) _ (List.mem_map_of_mem hb)⟩
  · intro h
    refine ⟨h.lay, ⟨by have := h.n24; omega, by have := h.k24; omega⟩, ⟨h.su, h.ou⟩, ⟨h.sg, h.og⟩, ⟨h.sa, h.oa⟩, (nodup3 (srt_nodup h.su) (srt_nodup h.sg) (srt_nodup h.sa)).2 ⟨?_, ?_, ?_⟩⟩
    · intro x hx y hy
      obtain ⟨a, ha, rfl⟩ := List.mem_map.1 hx
      obtain ⟨b, hb, rfl⟩ := List.mem_map.1 hy
      exact h.ug a ha b hb
    · intro x hx y hy
      obtain ⟨a, ha, rfl⟩ := List.mem_map.1 hx
      obtain ⟨b, hb, rfl⟩ := List.mem_map.1 hy
      exact h.ua a ha b hb
    · intro x hx y hy
      obtain ⟨a, ha, rfl⟩ := List.mem_map.1 hx
      obtain ⟨b, hb, rfl⟩ := List.mem_map.1 hy
      exact h.ga a ha b hb
theorem bsy_false {s : Int} {us : List Us} {gs : List Gr} : bsyB s us gs = false ↔ (∀ d ∈ us, d.s ≠ s) ∧ ∀ d ∈ gs, d.s ≠ s := by
  simp [bsyB]
theorem mem_una {s : Int} {ks : List Ak} {d : Ak} : d ∈ una s ks ↔ d ∈ ks ∧ d.s ≠ s := by
  simp [una, List.mem_filter]
theorem una_len (s : Int) (ks : List Ak) : (una s ks).length ≤ ks.length := List.length_filter_le _ _
theorem val_addU {N D : Int} {us : List Us} {gs : List Gr} {ks : List Ak} {x : Us} (h : Val N D us gs ks) (hx : usB N D x = true) (hbz : bsyB x.s us gs = false) (hl : us.length + gs.length < 24) : Val N D (adU x us) gs (una x.s ks) := by
  obtain ⟨b1, b2⟩ := bsy_false.1 hbz
  clear hbz
  refine ⟨h.lay, by rw [adU, length_insL]; omega, Nat.le_trans (una_len _ _) h.k24, srt_insL h.su b1, h.sg, srt_filter h.sa, fun d hd => ?_, h.og, fun d hd => h.oa d (mem_una.1 hd).1, fun a ha b hb => ?_, fun a ha b hb => ?_, fun a ha b hb => h.ga a ha b (mem_una.1 hb).1⟩
  · rcases mem_insL.1 hd with rfl | hd
    · exact hx
    · exact h.ou d hd
  · rcases mem_insL.1 ha with rfl | ha
    · exact fun e => b2 b hb e.symm
    · exact h.ug a ha b hb
  · rcases mem_insL.1 ha with rfl | ha
    · exact fun e => (mem_una.1 hb).2 e.symm
    · exact h.ua a ha b (mem_una.1 hb).1
theorem val_addG {N D : Int} {us : List Us} {gs : List Gr} {ks : List Ak} {x : Gr} (h : Val N D us gs ks) (hx : grB N D x = true) (hbz : bsyB x.s us gs = false) (hl : us.length + gs.length < 24) : Val N D us (adG x gs) (una x.s ks) := by
  obtain ⟨b1, b2⟩ := bsy_false.1 hbz
  clear hbz
  refine ⟨h.lay, by rw [adG, length_insL]; omega, Nat.le_trans (una_len _ _) h.k24, h.su, srt_insL h.sg b2, srt_filter h.sa, h.ou, fun d hd => ?_, fun d hd => h.oa d (mem_una.1 hd).1, fun a ha b hb => ?_, fun a ha b hb => h.ua a ha b (mem_una.1 hb).1, fun a ha b hb => ?_⟩
  · rcases mem_insL.1 hd with rfl | hd
    · exact hx
    · exact h.og d hd
  · rcases mem_insL.1 hb with rfl | hb
    · exact b1 a ha
    · exact h.ug a ha b hb
  · rcases mem_insL.1 ha with rfl | ha
    · exact fun e => (mem_una.1 hb).2 e.symm
    · exact h.ga a ha b (mem_una.1 hb).1
theorem val_sub {N D : Int} {us : List Us} {gs : List Gr} {ks : List Ak} (p : Us → Bool) (q : Gr → Bool) (r : Ak → Bool) (h : Val N D us gs ks) : Val N D (us.filter p) (gs.filter q) (ks.filter r) := by
  have h1 := List.length_filter_le p us
  have h2 := List.length_filter_le q gs
  have h3 := List.length_filter_le r ks
  have := h.n24; have := h.k24
  refine ⟨h.lay, by omega, by omega, srt_filter h.su, srt_filter h.sg, srt_filter h.sa, fun d hd => h.ou d (List.mem_filter.1 hd).1, fun d hd => h.og d (List.mem_filter.1 hd).1, fun d hd => h.oa d (List.mem_filter.1 hd).1, fun a ha b hb => h.ug a (List.mem_filter.1 ha).1 b (List.mem_filter.1 hb).1, fun a ha b hb => h.ua a (List.mem_filter.1 ha).1 b (List.mem_filter.1 hb).1, fun a ha b hb => h.ga a (List.mem_filter.1 ha).1 b (List.mem_filter.1 hb).1⟩
theorem filt_all {α : Type} {p : α → Bool} {l : List α} (h : ∀ d ∈ l, p d = true) : l.filter p = l := List.filter_eq_self.2 h
/-- What an addition asks. -/
theorem auE_ok {N D : Int} {us : List Us} {gs : List Gr} {ks : List Ak} {x : Us} (h : auE N D us gs ks x = 0) : Val N D us gs ks ∧ usB N D x = true ∧ bsyB x.s us gs = false ∧ us.length + gs.length < 24 := by
  obtain ⟨h1, h2, h3, h4⟩ := refE_ok h
  exact ⟨vld_iff.1 h1, h2, h3, by omega⟩
theorem agE_ok {N D : Int} {us : List Us} {gs : List Gr} {ks : List Ak} {x : Gr} (h : agE N D us gs ks x = 0) : Val N D us gs ks ∧ grB N D x = true ∧ bsyB x.s us gs = false ∧ us.length + gs.length < 24 := by
  obtain ⟨h1, h2, h3, h4⟩ := refE_ok h
  exact ⟨vld_iff.1 h1, h2, h3, by omega⟩
theorem auE_mk {N D : Int} {us : List Us} {gs : List Gr} {ks : List Ak} {x : Us} (h : Val N D us gs ks) (hx : usB N D x = true) (hb : bsyB x.s us gs = false) (hl : us.length + gs.length < 24) : auE N D us gs ks x = 0 := refE_o (vld_iff.2 h) hx hb (by omega)
theorem agE_mk {N D : Int} {us : List Us} {gs : List Gr} {ks : List Ak} {x : Gr} (h : Val N D us gs ks) (hx : grB N D x = true) (hb : bsyB x.s us gs = false) (hl : us.length + gs.length < 24) : agE N D us gs ks x = 0 := refE_o (vld_iff.2 h) hx hb (by omega)

/-! ### CellsBack -/
theorem filt_ins {α : Type} {q p : α → Bool} {x : α} (hx : p x = false) : ∀ {l : List α}, (∀ d ∈ l, p d = true) → (insL q x l).filter p = l
  | [], _ => by simp [insL, hx]
  | a :: l, h => by
    have ha := h a (by simp)
    have hl := fun d (hd : d ∈ l) => h d (by simp [hd])
    unfold insL
    split
    · rw [List.filter_cons_of_neg (by simp [hx])]; exact filt_all h
    · rw [List.filter_cons_of_pos ha, filt_ins hx hl]
theorem back_plain {N D : Int} {us : List Us} {gs : List Gr} {ks : List Ak} {x : Gr} (h : agE N D us gs ks x = 0) (ha : ks.any (fun d => d.s == x.s) = false) :
    us.filter (fun d => !(d.s == x.s && d.o == x.o)) = us ∧ (adG x gs).filter (fun d => !(d.s == x.s && d.o == x.o)) = gs ∧ (una x.s ks).filter (fun d => !(d.s == x.s && d.o == x.o)) = ks := by
  obtain ⟨hv, hx, hb, hl⟩ := agE_ok h
  obtain ⟨b1, b2⟩ := bsy_false.1 hb
  have hk : ∀ d ∈ ks, d.s ≠ x.s := by simpa using ha
  refine ⟨filt_all fun d hd => by simp [b1 d hd], filt_ins (by simp) fun d hd => by simp [b2 d hd], ?_⟩
  rw [una, filt_all (l := ks) fun d hd => by simp [hk d hd]]
  exact filt_all fun d hd => by simp [hk d hd]
/-! ### CellsOrder -/
theorem bsy_adU {s : Int} {us : List Us} {gs : List Gr} {x : Us} (h : bsyB s us gs = false) (hx : x.s ≠ s) : bsyB s (adU x us) gs = false := by
  obtain ⟨b1, b2⟩ := bsy_false.1 h
  refine bsy_false.2 ⟨fun d hd => ?_, b2⟩
  rcases mem_insL.1 hd with rfl | hd
  · exact hx
  · exact b1 d hd
theorem bsy_adG {s : Int} {us : List Us} {gs : List Gr} {x : Gr} (h : bsyB s us gs = false) (hx : x.s ≠ s) : bsyB s us (adG x gs) = false := by
  obtain ⟨b1, b2⟩ := bsy_false.1 h
  refine bsy_false.2 ⟨b1, fun d hd => ?_⟩
  rcases mem_insL.1 hd with rfl | hd
  · exact hx
  · exact b2 d hd
theorem order_plain {N D : Int} {us : List Us} {gs : List Gr} {ks : List Ak} {x : Us} {y : Gr} (hx : auE N D us gs ks x = 0) (hy : agE N D us gs ks y = 0) (hne : x.s ≠ y.s) (hl : us.length + gs.length + 2 ≤ 24) :
    agE N D (adU x us) gs (una x.s ks) y = 0 ∧ auE N D us (adG y gs) (una y.s ks) x = 0 ∧ una y.s (una x.s ks) = una x.s (una y.s ks) := by
  obtain ⟨v1, x1, b1, l1⟩ := auE_ok hx
  obtain ⟨_, y1, b2, l2⟩ := agE_ok hy
  refine ⟨agE_mk (val_addU v1 x1 b1 l1) y1 (bsy_adU b2 hne) (by rw [adU, length_insL]; omega), auE_mk (val_addG v1 y1 b2 l2) x1 (bsy_adG b1 (fun e => hne e.symm)) (by rw [adG, length_insL]; omega), ?_⟩
  simp only [una, List.filter_filter]
  congr 1
  funext d
  exact Bool.and_comm _ _
/-! ### CellsTime -/
theorem time_plain (gs : List Gr) (a b : Int) : (gs.filter (fun d => !decide (d.u < a))).filter (fun d => !decide (d.u < b)) = gs.filter (fun d => !decide (d.u < max a b)) ∧ gs.filter (fun d => decide (a ≤ d.u) && decide (b ≤ d.u)) = gs.filter (fun d => !decide (d.u < max a b)) := by
  rw [List.filter_filter]
  constructor <;>
  · congr 1
    funext d
    rw [Bool.eq_iff_iff]
    simp
    omega

end Go.Proofs.Ytdmadnoijhmbcaa
